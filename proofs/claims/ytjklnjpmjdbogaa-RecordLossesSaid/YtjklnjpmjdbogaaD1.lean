/- The reference of SHA-256: contracts (1): rotate, padded, schedule. -/
import Derived.Test.YtjklnjpmjdbogaaC8
namespace Go.Proofs.Try
open Go.RowKit Go.SL Go.SH Go.RC
set_option maxRecDepth 100000
set_option linter.unusedSimpArgs false
set_option linter.unusedVariables false
section
variable {w : World} {I : Gh} {L : List Ch}
theorem rotate_ct (p : W32) (n : Nat) (hn : 1 ≤ n ∧ n ≤ 31) (hS : Sat w I L) : Calls Try.prog 62 #[V32 p, .int .i64 (n : Int)] w fun e w' => e = .returned (V32 (rotr p n)) ∧ Sat w' I L := by
  go_enter Try.func62, Try.ntmps62
  repeat' (first
    | ((with_reducible apply wp_region_plain (id := 0)); refine xv (ex_assign (ev_const _ _)) ?_; refine wl_nil ?_)
    | ((with_reducible apply wp_region_GS (id := 1) 9 (fun j => [0, 1, 2, 3, 4, 5, 6, 7, 8].contains j) mixed); rfl; exact hS; (clear hS; intro w hS); refine xp 0 rfl rfl (fun w => ex_move (ev_at rfl)) ?_; refine xp 1 rfl rfl (fun w => ex_move (ev_at rfl)) ?_; refine xp 2 rfl rfl (fun w => ex_shr32 (s := n) (ev_at rfl) (ev_at rfl) (by omega)) ?_; refine xp 3 rfl rfl (fun w => ex_move (ev_at rfl)) ?_; refine xp 4 rfl rfl (fun w => ex_move (ev_at rfl)) ?_; refine xp 5 rfl rfl (fun w => ex_arith (s := ((32 - n : Nat) : Int)) (ev_const _ _) (ev_at rfl) rfl (by rw [IntWalk.i64_in _ (by omega)]; omega)) ?_; refine xp 6 rfl rfl (fun w => ex_shl32 (s := 32 - n) (ev_at rfl) (ev_at rfl) (by omega)) ?_; refine xp 7 rfl rfl (fun w => ex_or32 (ev_at rfl) (ev_at rfl)) ?_; refine xp 8 rfl rfl (fun w => ex_assign (ev_at rfl)) ?_; refine wg_end (by decide +kernel) ?_)
    | ((fail_if_success (with_reducible apply wp_region_plain)); (fail_if_success (with_reducible apply wp_region_GS)); go_step))
  refine end1 (by first | exact .inl rfl | exact .inr rfl) rfl (ResL.rt rfl ResL.rn) ?_
  exact ⟨rfl, hS⟩
set_option maxHeartbeats 4000000 in
theorem rconstants_ct (hS : Sat w I L) : Calls Try.prog 59 #[] w fun e w' => e = .returned (stV KS) ∧ Sat w' I L := by
  go_enter Try.func59, Try.ntmps59
  repeat' (first
    | ((with_reducible apply wp_region_plain (id := 0)); refine wl_of rfl (wp_alloc hS (zeT rfl) fun b0 w hS => wl_put (by simp only [lset] <;> rfl) ?_); refine wl_nil ?_)
    | ((with_reducible apply wp_region_plain (id := 1)); refine xv (ex_buildA (arT rfl) (szT rfl) (zeT rfl) (Ones.run (Ones.cons rfl (ev_const _ _) rfl (Ones.cons rfl (ev_const _ _) rfl (Ones.cons rfl (ev_const _ _) rfl (Ones.cons rfl (ev_const _ _) rfl (Ones.cons rfl (ev_const _ _) rfl (Ones.cons rfl (ev_const _ _) rfl (Ones.cons rfl (ev_const _ _) rfl (Ones.cons rfl (ev_const _ _) rfl (Ones.cons rfl (ev_const _ _) rfl (Ones.cons rfl (ev_const _ _) rfl (Ones.cons rfl (ev_const _ _) rfl (Ones.cons rfl (ev_const _ _) rfl (Ones.cons rfl (ev_const _ _) rfl (Ones.cons rfl (ev_const _ _) rfl (Ones.cons rfl (ev_const _ _) rfl (Ones.cons rfl (ev_const _ _) rfl (Ones.cons rfl (ev_const _ _) rfl (Ones.cons rfl (ev_const _ _) rfl (Ones.cons rfl (ev_const _ _) rfl (Ones.cons rfl (ev_const _ _) rfl (Ones.cons rfl (ev_const _ _) rfl (Ones.cons rfl (ev_const _ _) rfl (Ones.cons rfl (ev_const _ _) rfl (Ones.cons rfl (ev_const _ _) rfl (Ones.cons rfl (ev_const _ _) rfl (Ones.cons rfl (ev_const _ _) rfl (Ones.cons rfl (ev_const _ _) rfl (Ones.cons rfl (ev_const _ _) rfl (Ones.cons rfl (ev_const _ _) rfl (Ones.cons rfl (ev_const _ _) rfl (Ones.cons rfl (ev_const _ _) rfl (Ones.cons rfl (ev_const _ _) rfl (Ones.cons rfl (ev_const _ _) rfl (Ones.cons rfl (ev_const _ _) rfl (Ones.cons rfl (ev_const _ _) rfl (Ones.cons rfl (ev_const _ _) rfl (Ones.cons rfl (ev_const _ _) rfl (Ones.cons rfl (ev_const _ _) rfl (Ones.cons rfl (ev_const _ _) rfl (Ones.cons rfl (ev_const _ _) rfl (Ones.cons rfl (ev_const _ _) rfl (Ones.cons rfl (ev_const _ _) rfl (Ones.cons rfl (ev_const _ _) rfl (Ones.cons rfl (ev_const _ _) rfl (Ones.cons rfl (ev_const _ _) rfl (Ones.cons rfl (ev_const _ _) rfl (Ones.cons rfl (ev_const _ _) rfl (Ones.cons rfl (ev_const _ _) rfl (Ones.cons rfl (ev_const _ _) rfl (Ones.cons rfl (ev_const _ _) rfl (Ones.cons rfl (ev_const _ _) rfl (Ones.cons rfl (ev_const _ _) rfl (Ones.cons rfl (ev_const _ _) rfl (Ones.cons rfl (ev_const _ _) rfl (Ones.cons rfl (ev_const _ _) rfl (Ones.cons rfl (ev_const _ _) rfl (Ones.cons rfl (ev_const _ _) rfl (Ones.cons rfl (ev_const _ _) rfl (Ones.cons rfl (ev_const _ _) rfl (Ones.cons rfl (ev_const _ _) rfl (Ones.cons rfl (ev_const _ _) rfl (Ones.cons rfl (ev_const _ _) rfl (Ones.cons rfl (ev_const _ _) rfl (Ones.cons rfl (ev_const _ _) rfl Ones.nil)))))))))))))))))))))))))))))))))))))))))))))))))))))))))))))))) rfl)) ?_; refine wl_of rfl (wp_storeN (ev_at rfl) (ev_at rfl) hS (szT rfl) rfl (by first | rfl | assumption | (simp only [sub, splice, List.take_succ_cons, List.take_zero, List.drop_succ_cons, List.drop_zero, List.nil_append, List.cons_append, List.length_cons, List.length_nil, Nat.reduceAdd, List.all_cons, List.all_nil, Bool.and_eq_true, Bool.and_true]; ((repeat' apply And.intro) <;> first | rfl | assumption | exact IsSl.one (by assumption)))) fun w hS => wl_put0 ?_); refine wl_nil ?_; (try simp only [lset, splice, sub, List.take_succ_cons, List.take_zero, List.drop_succ_cons, List.drop_zero, List.nil_append, List.cons_append, List.length_cons, List.length_nil, Nat.reduceAdd, Nat.zero_add, rep_zero] at hS))
    | ((fail_if_success (with_reducible apply wp_region_plain)); (fail_if_success (with_reducible apply wp_region_GS)); go_step))
  refine end1 (by first | exact .inl rfl | exact .inr rfl) rfl (ResL.rc rfl (ldN hS (kdT rfl) (szT rfl) rfl) ResL.rn) ?_
  exact ⟨rfl, hS.drop⟩
set_option maxHeartbeats 4000000 in
theorem padded_ct (v : Value) (bs : List UInt8) (n : Nat) (hv : IsSl v n) (hl : bs.length = n) (hr : Rds I L v (bs.map byteV)) (hb : n ≤ 1099511627) (hS : Sat w I L) :
    Calls Try.prog 60 #[v] w fun e w' => ∃ u, e = .returned u ∧ IsSl u (bs ++ pad n).length ∧ Sat w' I (Row u 5 1 (bs ++ pad n).length ((bs ++ pad n).map byteV) :: L) := by
  have hz : (n + 1 + SH.zeros n) % 64 = 56 ∧ SH.zeros n < 64 := by unfold SH.zeros; omega
  generalize hZ : SH.zeros n = Z at hz
  go_enter Try.func60, Try.ntmps60
  repeat' (first
    | ((with_reducible apply wp_region_plain (id := 0)); refine xv (ex_assign (ev_const _ _)) ?_; refine wl_nil ?_)
    | ((with_reducible apply wp_region_plain (id := 1)); refine wl_of rfl (wp_buildSlice (slT rfl) (szT rfl) (zeT rfl) Fills.nil hS rfl (by first | rfl | assumption) fun b6 w hS => wl_put (by simp only [lset] <;> rfl) ?_); refine xv (ex_move (ev_at rfl)) ?_; refine wl_of rfl (wp_append (ev_at rfl) (ev_at rfl) (slT rfl) (szT rfl) (byT rfl) (zeT rfl) hS (Rds.src hr hS hv (by simp [hl]) (byteV_Oc _)) (by omega) (by omega) rfl fun v8 w hS hv8 => wl_put (by simp only [lset] <;> rfl) ?_); refine wl_of rfl (wp_buildSlice (slT rfl) (szT rfl) (zeT rfl) (fillsOne1 (ev_const _ _) (by first | rfl | exact IsSl.one (by assumption))) hS rfl (by first | rfl | assumption | (simp only [sub, splice, List.take_succ_cons, List.take_zero, List.drop_succ_cons, List.drop_zero, List.nil_append, List.cons_append, List.length_cons, List.length_nil, Nat.reduceAdd, List.all_cons, List.all_nil, Bool.and_eq_true, Bool.and_true]; ((repeat' apply And.intro) <;> first | rfl | assumption | exact IsSl.one (by assumption)))) fun b9 w hS => wl_put (by simp only [lset] <;> rfl) ?_); refine wl_of rfl (wp_append1 (ev_at rfl) (ev_at rfl) (slT rfl) (szT rfl) (byT rfl) (zeT rfl) hS (by omega) (by omega) rfl fun v10 w hS hv10 => wl_put (by simp only [lset] <;> rfl) ?_); refine xv (ex_assign (ev_at rfl)) ?_; refine wl_nil ?_; (try simp only [lset, splice, sub, List.take_succ_cons, List.take_zero, List.drop_succ_cons, List.drop_zero, List.nil_append, List.cons_append, List.length_cons, List.length_nil, Nat.reduceAdd, Nat.zero_add, rep_zero] at hS))
    | ((fail_if_success (with_reducible apply wp_region_plain)); (fail_if_success (with_reducible apply wp_region_GS)); go_step))
  have e0 : bs.map byteV ++ [.int .u8 128] = (bs ++ padL 0).map byteV := by simp [padL]; rfl
  rw [e0] at hS
  refine wp_loopM [false, false, false, true, false, false, false, false, false, false, false, true, true, true, true, true, true, true] (fun m f w => ∃ (k : Nat) (u : Value), m = Z - k ∧ f 3 = u ∧ k ≤ Z ∧ Sat w I (Row u 5 1 (n + k + 1) ((bs ++ padL k).map byteV) :: L)) rfl Z ⟨0, v10, rfl, rfl, Nat.zero_le _, by simpa using hS⟩ ?_
  clear hS
  rintro m f w ⟨k, u, rfl, h3, hk, hS⟩
  simp only [havoc, Nat.reduceAdd, h3]
  have hui : IsSl u (n + k + 1) := (hS.rowH (v := u)).1
  by_cases hlt : k < Z
  case pos =>
    have hne : ((n + k + 1 : Nat) : Int) % 64 ≠ 56 := by unfold SH.zeros at hZ; omega
    repeat' (first
      | ((with_reducible apply wp_region_plain (id := 2)); refine xv (ex_move (ev_at rfl)) ?_; refine xv (ex_len (ev_at rfl) (slT rfl) (by first | assumption | exact IsSl.nil)) ?_; refine xv (ex_rem (ev_at rfl) (ev_const _ _) (by first | decide | omega) (by omega)) ?_; refine xv (ex_cmp (ev_at rfl) (ev_const _ _) (by first | exact neqT (by omega) | exact neqF (by omega) | rfl)) ?_; refine wl_nil ?_)
      | ((with_reducible apply wp_region_plain (id := 3)); refine xv (ex_move (ev_at rfl)) ?_; refine wl_of rfl (wp_buildSlice (slT rfl) (szT rfl) (zeT rfl) (fillsOne1 (ev_const _ _) (by first | rfl | exact IsSl.one (by assumption))) hS rfl (by first | rfl | assumption | (simp only [sub, splice, List.take_succ_cons, List.take_zero, List.drop_succ_cons, List.drop_zero, List.nil_append, List.cons_append, List.length_cons, List.length_nil, Nat.reduceAdd, List.all_cons, List.all_nil, Bool.and_eq_true, Bool.and_true]; ((repeat' apply And.intro) <;> first | rfl | assumption | exact IsSl.one (by assumption)))) fun b16 w hS => wl_put (by simp only [lset] <;> rfl) ?_); refine wl_of rfl (wp_append1 (ev_at rfl) (ev_at rfl) (slT rfl) (szT rfl) (byT rfl) (zeT rfl) hS (by omega) (by omega) rfl fun v17 w hS hv17 => wl_put (by simp only [lset] <;> rfl) ?_); refine xv (ex_assign (ev_at rfl)) ?_; refine wl_nil ?_; (try simp only [lset, splice, sub, List.take_succ_cons, List.take_zero, List.drop_succ_cons, List.drop_zero, List.nil_append, List.cons_append, List.length_cons, List.length_nil, Nat.reduceAdd, Nat.zero_add, rep_zero] at hS))
      | ((fail_if_success (with_reducible apply wp_region_plain)); (fail_if_success (with_reducible apply wp_region_GS)); go_step))
    have e1 : (bs ++ padL k).map byteV ++ [.int .u8 0] = (bs ++ padL (k + 1)).map byteV := by rw [List.map_append, List.append_assoc, padL_snoc, ← List.map_append]
    rw [e1] at hS
    exact loopEndM rfl (Z - (k + 1)) ⟨k + 1, _, rfl, rfl, by omega, hS⟩ (by omega)
  have hkZ : k = Z := by omega
  subst hkZ
  have hne : ((n + k + 1 : Nat) : Int) % 64 = 56 := by omega
  clear h3
  repeat' (first
    | ((with_reducible apply wp_region_plain (id := 2)); refine xv (ex_move (ev_at rfl)) ?_; refine xv (ex_len (ev_at rfl) (slT rfl) (by first | assumption | exact IsSl.nil)) ?_; refine xv (ex_rem (ev_at rfl) (ev_const _ _) (by first | decide | omega) (by omega)) ?_; refine xv (ex_cmp (ev_at rfl) (ev_const _ _) (by first | exact neqT (by omega) | exact neqF (by omega) | rfl)) ?_; refine wl_nil ?_)
    | ((with_reducible apply wp_region_plain (id := 4)); refine xv (ex_move (ev_at rfl)) ?_; refine xv (ex_len (ev_at rfl) (slT rfl) (by first | assumption | exact IsSl.nil)) ?_; refine xv (ex_convII (ev_at rfl) (inT rfl) (kdT rfl) (by first | exact IntWalk.u64_in _ (by omega) | rfl)) ?_; refine xv (ex_arith (s := ((n * 8 : Nat) : Int)) (ev_at rfl) (ev_const _ _) rfl (by rw [IntWalk.u64_in _ (by omega)]; omega)) ?_; refine xv (ex_assign (ev_at rfl)) ?_; refine wl_nil ?_)
    | ((with_reducible apply wp_region_plain (id := 5)); refine xv (ex_assign (ev_const _ _)) ?_; refine wl_nil ?_)
    | ((fail_if_success (with_reducible apply wp_region_plain)); (fail_if_success (with_reducible apply wp_region_GS)); go_step))
  refine wp_loopM [false, false, false, true, false, true, false, false, false, false, false, false, false, false, false, false, false, false, false, false, false, false, true, true, true, true, true, true, true, true, true, true, true, true] (fun m f w => ∃ (i : Nat) (u : Value), m = i ∧ f 3 = u ∧ f 5 = .int .i64 ((i : Int) - 1) ∧ i ≤ 8 ∧ Sat w I (Row u 5 1 (n + k + 1 + (8 - i)) ((bs ++ padL k ++ (be64 (n * 8)).take (8 - i)).map byteV) :: L)) rfl 8 ⟨8, u, rfl, rfl, rfl, Nat.le_refl _, by simpa using hS⟩ ?_
  clear hS hui
  rintro m f w ⟨i, u, rfl, h3, h5, hi, hS⟩
  simp only [havoc, Nat.reduceAdd, h3, h5]
  have hui : IsSl u (n + k + 1 + (8 - m)) := (hS.rowH (v := u)).1
  by_cases hm : m = 0
  case neg =>
    obtain ⟨p, rfl⟩ : ∃ p, m = p + 1 := ⟨m - 1, by omega⟩
    rw [show ((p + 1 : Nat) : Int) - 1 = (p : Int) from by omega]
    repeat' (first
      | ((with_reducible apply wp_region_plain (id := 6)); refine xv (ex_move (ev_at rfl)) ?_; refine xv (ex_cmp (ev_at rfl) (ev_const _ _) (by first | exact geqT (by omega) | exact geqF (by omega) | rfl)) ?_; refine wl_nil ?_)
      | ((with_reducible apply wp_region_plain (id := 8)); refine xv (ex_move (ev_at rfl)) ?_; refine xv (ex_move (ev_at rfl)) ?_; refine xv (ex_move (ev_at rfl)) ?_; refine xv (ex_arith (s := ((8 * p : Nat) : Int)) (ev_const _ _) (ev_at rfl) rfl (by rw [IntWalk.i64_in _ (by omega)]; omega)) ?_; refine xv (ex_shrN (ev_at rfl) (ev_at rfl) (by simp only [IntKind.bits]; omega)) ?_; refine xv (ex_convI8 (ev_at rfl) (inT rfl) (kdT rfl)) ?_; refine wl_of rfl (wp_buildSlice (slT rfl) (szT rfl) (zeT rfl) (fillsOne1 (ev_at rfl) (by first | rfl | exact IsSl.one (by assumption))) hS rfl (by first | rfl | assumption | (simp only [sub, splice, List.take_succ_cons, List.take_zero, List.drop_succ_cons, List.drop_zero, List.nil_append, List.cons_append, List.length_cons, List.length_nil, Nat.reduceAdd, List.all_cons, List.all_nil, Bool.and_eq_true, Bool.and_true]; ((repeat' apply And.intro) <;> first | rfl | assumption | exact IsSl.one (by assumption)))) fun b32 w hS => wl_put (by simp only [lset] <;> rfl) ?_); refine wl_of rfl (wp_append1 (ev_at rfl) (ev_at rfl) (slT rfl) (szT rfl) (byT rfl) (zeT rfl) hS (by omega) (by omega) rfl fun v33 w hS hv33 => wl_put (by simp only [lset] <;> rfl) ?_); refine xv (ex_assign (ev_at rfl)) ?_; refine wl_nil ?_; (try simp only [lset, splice, sub, List.take_succ_cons, List.take_zero, List.drop_succ_cons, List.drop_zero, List.nil_append, List.cons_append, List.length_cons, List.length_nil, Nat.reduceAdd, Nat.zero_add, rep_zero] at hS))
      | ((with_reducible apply wp_region_plain (id := 7)); refine xv (ex_move (ev_at rfl)) ?_; refine xv (ex_arith (ev_at rfl) (ev_const _ _) rfl (by first | exact IntWalk.i64_in _ (by omega) | rfl)) ?_; refine xv (ex_assign (ev_at rfl)) ?_; refine wl_nil ?_)
      | ((fail_if_success (with_reducible apply wp_region_plain)); (fail_if_success (with_reducible apply wp_region_GS)); go_step))
    have e : (bs ++ padL k ++ (be64 (n * 8)).take (8 - (p + 1))).map byteV ++ [byteV (UInt8.ofNat (n * 8 / 2 ^ (8 * p)))] = (bs ++ padL k ++ (be64 (n * 8)).take (8 - p)).map byteV := by
      rw [← be64_snoc (by omega : p ≤ 7), show 8 - (p + 1) = 7 - p from by omega]
      simp
    rw [e, show n + k + 1 + (8 - (p + 1)) + 1 = n + k + 1 + (8 - p) from by omega] at hS
    exact loopEndM rfl p ⟨p, _, rfl, rfl, rfl, by omega, hS⟩ (by omega)
  subst hm
  have hpad : bs ++ padL k ++ (be64 (n * 8)).take (8 - 0) = bs ++ pad n := by rw [pad, hZ]; simp [padL, be64]
  have hpl : (bs ++ pad n).length = n + k + 1 + (8 - 0) := by rw [← hpad]; simp [padL_len, be64, hl]; omega
  rw [hpad] at hS
  repeat' (first
    | ((with_reducible apply wp_region_plain (id := 6)); refine xv (ex_move (ev_at rfl)) ?_; refine xv (ex_cmp (ev_at rfl) (ev_const _ _) (by first | exact geqT (by omega) | exact geqF (by omega) | rfl)) ?_; refine wl_nil ?_)
    | ((with_reducible apply wp_region_plain (id := 9)); refine xv (ex_move (ev_at rfl)) ?_; refine xv (ex_assign (ev_at rfl)) ?_; refine wl_nil ?_)
    | ((fail_if_success (with_reducible apply wp_region_plain)); (fail_if_success (with_reducible apply wp_region_GS)); go_step))
  refine end1 (by first | exact .inl rfl | exact .inr rfl) rfl (ResL.rt rfl ResL.rn) ?_
  exact ⟨u, rfl, by rw [hpl]; exact hui, by rw [hpl]; exact hS⟩
def mixN (ws : List W32) (n i : Nat) : List Value := (ws.take i ++ List.replicate (n - i) 0).map V32
theorem mixN_len {ws : List W32} {n i : Nat} (h : ws.length = n) (hi : i ≤ n) : (mixN ws n i).length = n := by simp [mixN, h]; omega
theorem mixN_set {ws : List W32} {n i k : Nat} {x : W32} (h : ws.length = n) (hi : i < n) (hx : gt ws i = x) (hk : k = i) : (mixN ws n i).set k (V32 x) = mixN ws n (i + 1) := by
  subst hk
  have hg : ws[k]? = some x := by rw [← hx, gt, List.getD, List.getElem?_eq_getElem (by omega)]; rfl
  have e1 : ws.take (k + 1) = ws.take k ++ [x] := by rw [List.take_add_one, hg]; rfl
  have e2 : (List.replicate (n - k) (0 : W32)) = 0 :: List.replicate (n - (k + 1)) 0 := by rw [show n - k = (n - (k + 1)) + 1 from by omega]; rfl
  have hl : (ws.take k).length = k := by simp; omega
  unfold mixN
  rw [e1, e2, ← List.map_set, List.set_append_right _ _ (by omega)]
  simp [hl]
theorem mixN_get {ws : List W32} {n i k j : Nat} (h : ws.length = n) (hi : i ≤ n) (hj : j < i) (hk : k = j) : (mixN ws n i)[k]? = some (V32 (gt ws j)) := by
  subst hk
  unfold mixN
  rw [List.getElem?_map, List.getElem?_append_left (by simp; omega), List.getElem?_take, if_pos hj, gt, List.getD, List.getElem?_eq_getElem (by omega)]
  rfl
set_option maxHeartbeats 4000000 in
theorem schedule_ct (v : Value) (bs : List UInt8) (hv : IsSl v 64) (hl : bs.length = 64) (hr : Rds I L v (bs.map byteV)) (hS : Sat w I L) :
    Calls Try.prog 61 #[v] w fun e w' => e = .returned (stV (sched 48 (loadW bs))) ∧ Sat w' I L := by
  have hw16 : (loadW bs).length = 16 := loadW_len 16 (by simp; omega)
  have hW : (sched 48 (loadW bs)).length = 64 := by rw [sched_len]; omega
  have hlow : ∀ i, i < 16 → gt (sched 48 (loadW bs)) i = gt (loadW bs) i := fun i hi => sched_pre 48 _ (by omega)
  have hhigh : ∀ t, 16 ≤ t → t < 64 → _ := fun t h1 h2 => sched_rec 48 (loadW bs) (j := t) (by omega) (by omega) (by omega)
  have hwd : ∀ i, i < 16 → ∃ a b c d, bs[4 * i]? = some a ∧ bs[4 * i + 1]? = some b ∧ bs[4 * i + 2]? = some c ∧ bs[4 * i + 3]? = some d ∧ gt (loadW bs) i = word a b c d := by
    intro i hi
    have h0 := List.getElem?_eq_getElem (l := bs) (i := 4 * i) (by omega)
    have h1 := List.getElem?_eq_getElem (l := bs) (i := 4 * i + 1) (by omega)
    have h2 := List.getElem?_eq_getElem (l := bs) (i := 4 * i + 2) (by omega)
    have h3 := List.getElem?_eq_getElem (l := bs) (i := 4 * i + 3) (by omega)
    refine ⟨_, _, _, _, h0, h1, h2, h3, ?_⟩
    rw [gt, List.getD, loadW_get h0 h1 h2 h3]
    rfl
  generalize sched 48 (loadW bs) = W at hW hlow hhigh
  generalize loadW bs = ld at hlow hwd
  go_enter Try.func61, Try.ntmps61
  repeat' (first
    | ((with_reducible apply wp_region_plain (id := 0)); refine wl_of rfl (wp_alloc hS (zeT rfl) fun b2 w hS => wl_put (by simp only [lset] <;> rfl) ?_); refine wl_nil ?_)
    | ((with_reducible apply wp_region_plain (id := 1)); refine wl_of rfl (wp_alloc hS (zeT rfl) fun b3 w hS => wl_put (by simp only [lset] <;> rfl) ?_); refine wl_nil ?_)
    | ((with_reducible apply wp_region_plain (id := 2)); refine xv (ex_assign (ev_const _ _)) ?_; refine wl_nil ?_)
    | ((fail_if_success (with_reducible apply wp_region_plain)); (fail_if_success (with_reducible apply wp_region_GS)); go_step))
  refine wp_loopM [false, false, false, false, true, true, true, true, true, true, true, true, true, true, true, true, true, true, true, true, true, true, true, true, true, true, true, true, true, true, true, true, true, true, true, true, true, true, true, true, true, true, true, true, true, true, true, true, true, true, true, true, true, true, true, true, true, true, true, true, true, true, true, true, true, true, true, true, true, true, true, true, true, true, true, true, true, true, true, true, true, true, true, true, true] (fun n f w => ∃ t : Nat, n = 64 - t ∧ f 4 = .int .i64 t ∧ t ≤ 64 ∧ Sat w I (Cells b3 116 (mixN W 64 t) :: Cells b2 116 (mixN [] 64 0) :: L)) rfl 64 ⟨0, rfl, rfl, Nat.zero_le _, hS⟩ ?_
  clear hS
  rintro m f w ⟨t, rfl, h4, ht, hS⟩
  simp only [havoc, Nat.reduceAdd, h4]
  have hmx := mixN_len hW ht
  by_cases hlt : t < 64
  case neg =>
    have : t = 64 := by omega
    subst this
    have e64 : mixN W 64 64 = W.map V32 := by simp [mixN, List.take_of_length_le (Nat.le_of_eq hW)]
    rw [e64] at hS
    have hml : (W.map V32).length = 64 := by simp [hW]
    repeat' (first
      | ((with_reducible apply wp_region_plain (id := 3)); refine xv (ex_move (ev_at rfl)) ?_; refine xv (ex_cmp (ev_at rfl) (ev_const _ _) (by first | exact lssT (by omega) | exact lssF (by omega) | rfl)) ?_; refine wl_nil ?_)
      | ((with_reducible apply wp_region_plain (id := 9)); refine xv (ex_load (ev_at rfl) (ldW hS (kdT rfl) (szT rfl) hml)) ?_; refine wl_of rfl (wp_storeW (vs := W.map V32) (ev_at rfl) (ev_at rfl) hS (szT rfl) hml rfl (V32_Oc _) fun w hS => wl_put0 ?_); refine wl_nil ?_; (try simp only [lset, splice, sub, List.take_succ_cons, List.take_zero, List.drop_succ_cons, List.drop_zero, List.nil_append, List.cons_append, List.length_cons, List.length_nil, Nat.reduceAdd, Nat.zero_add, rep_zero] at hS))
      | ((fail_if_success (with_reducible apply wp_region_plain)); (fail_if_success (with_reducible apply wp_region_GS)); go_step))
    refine end1 (by first | exact .inl rfl | exact .inr rfl) rfl (ResL.rc rfl (ldW hS (kdT rfl) (szT rfl) hml) ResL.rn) ?_
    exact ⟨rfl, hS.drop.drop⟩
  rcases Nat.lt_or_ge t 16 with h16 | h16
  · obtain ⟨c0, c1, c2, c3, g0, g1, g2, g3, hg⟩ := hwd t h16
    rw [← hlow t h16] at hg
    repeat' (first
      | ((with_reducible apply wp_region_plain (id := 3)); refine xv (ex_move (ev_at rfl)) ?_; refine xv (ex_cmp (ev_at rfl) (ev_const _ _) (by first | exact lssT (by omega) | exact lssF (by omega) | rfl)) ?_; refine wl_nil ?_)
      | ((with_reducible apply wp_region_plain (id := 5)); refine xv (ex_move (ev_at rfl)) ?_; refine xv (ex_cmp (ev_at rfl) (ev_const _ _) (by first | exact lssT (by omega) | exact lssF (by omega) | rfl)) ?_; refine wl_nil ?_)
      | ((with_reducible apply wp_region_GS (id := 6) 36 (fun j => [0, 1, 2, 3, 4, 5, 6, 7, 8, 9, 10, 11, 12, 13, 14, 15, 16, 17, 18, 19, 20, 21, 22, 23, 24, 25, 26, 27, 28, 29, 30, 31, 32, 33, 34].contains j) mixed); rfl; exact hS; (clear hS; intro w hS); refine xp 0 rfl rfl (fun w => ex_move (ev_at rfl)) ?_; refine xp 1 rfl rfl (fun w => ex_move (ev_at rfl)) ?_; refine xp 2 rfl rfl (fun w => ex_move (ev_at rfl)) ?_; refine xp 3 rfl rfl (fun w => ex_arith (ev_const _ _) (ev_at rfl) rfl (by first | exact IntWalk.i64_in _ (by omega) | rfl)) ?_; (first | refine xp 4 rfl rfl (fun w => ex_iaN (ev_at rfl) (ev_at rfl) (slT rfl) (szT rfl) (by first | assumption | exact IsSl.nil) (by omega)) ?_ | refine xp 4 rfl rfl (fun w => ex_ia (ev_at rfl) (ev_at rfl) (slT rfl) (szT rfl) (by first | assumption | exact IsSl.nil) (by omega) (by omega)) ?_); refine xr 5 hS rfl rfl (fun w X hS => ex_load (ev_at rfl) (ldE1 (u := byteV c0) (hr.rd hS) hv (m := 4 * t) (by omega) (kdT rfl) (byteGet g0 (by omega)))) ?_; refine xp 6 rfl rfl (fun w => ex_conv8_32 (ev_at rfl) (inT rfl) (kdT rfl)) ?_; refine xp 7 rfl rfl (fun w => ex_shl32 (s := 24) (ev_at rfl) (ev_const _ _) (by omega)) ?_; refine xp 8 rfl rfl (fun w => ex_move (ev_at rfl)) ?_; refine xp 9 rfl rfl (fun w => ex_move (ev_at rfl)) ?_; refine xp 10 rfl rfl (fun w => ex_arith (ev_const _ _) (ev_at rfl) rfl (by first | exact IntWalk.i64_in _ (by omega) | rfl)) ?_; refine xp 11 rfl rfl (fun w => ex_arith (ev_at rfl) (ev_const _ _) rfl (by first | exact IntWalk.i64_in _ (by omega) | rfl)) ?_; (first | refine xp 12 rfl rfl (fun w => ex_iaN (ev_at rfl) (ev_at rfl) (slT rfl) (szT rfl) (by first | assumption | exact IsSl.nil) (by omega)) ?_ | refine xp 12 rfl rfl (fun w => ex_ia (ev_at rfl) (ev_at rfl) (slT rfl) (szT rfl) (by first | assumption | exact IsSl.nil) (by omega) (by omega)) ?_); refine xr 13 hS rfl rfl (fun w X hS => ex_load (ev_at rfl) (ldE1 (u := byteV c1) (hr.rd hS) hv (m := 4 * t) (by omega) (kdT rfl) (byteGet g1 (by omega)))) ?_; refine xp 14 rfl rfl (fun w => ex_conv8_32 (ev_at rfl) (inT rfl) (kdT rfl)) ?_; refine xp 15 rfl rfl (fun w => ex_shl32 (s := 16) (ev_at rfl) (ev_const _ _) (by omega)) ?_; refine xp 16 rfl rfl (fun w => ex_or32 (ev_at rfl) (ev_at rfl)) ?_; refine xp 17 rfl rfl (fun w => ex_move (ev_at rfl)) ?_; refine xp 18 rfl rfl (fun w => ex_move (ev_at rfl)) ?_; refine xp 19 rfl rfl (fun w => ex_arith (ev_const _ _) (ev_at rfl) rfl (by first | exact IntWalk.i64_in _ (by omega) | rfl)) ?_; refine xp 20 rfl rfl (fun w => ex_arith (ev_at rfl) (ev_const _ _) rfl (by first | exact IntWalk.i64_in _ (by omega) | rfl)) ?_; (first | refine xp 21 rfl rfl (fun w => ex_iaN (ev_at rfl) (ev_at rfl) (slT rfl) (szT rfl) (by first | assumption | exact IsSl.nil) (by omega)) ?_ | refine xp 21 rfl rfl (fun w => ex_ia (ev_at rfl) (ev_at rfl) (slT rfl) (szT rfl) (by first | assumption | exact IsSl.nil) (by omega) (by omega)) ?_); refine xr 22 hS rfl rfl (fun w X hS => ex_load (ev_at rfl) (ldE1 (u := byteV c2) (hr.rd hS) hv (m := 4 * t) (by omega) (kdT rfl) (byteGet g2 (by omega)))) ?_; refine xp 23 rfl rfl (fun w => ex_conv8_32 (ev_at rfl) (inT rfl) (kdT rfl)) ?_; refine xp 24 rfl rfl (fun w => ex_shl32 (s := 8) (ev_at rfl) (ev_const _ _) (by omega)) ?_; refine xp 25 rfl rfl (fun w => ex_or32 (ev_at rfl) (ev_at rfl)) ?_; refine xp 26 rfl rfl (fun w => ex_move (ev_at rfl)) ?_; refine xp 27 rfl rfl (fun w => ex_move (ev_at rfl)) ?_; refine xp 28 rfl rfl (fun w => ex_arith (ev_const _ _) (ev_at rfl) rfl (by first | exact IntWalk.i64_in _ (by omega) | rfl)) ?_; refine xp 29 rfl rfl (fun w => ex_arith (ev_at rfl) (ev_const _ _) rfl (by first | exact IntWalk.i64_in _ (by omega) | rfl)) ?_; (first | refine xp 30 rfl rfl (fun w => ex_iaN (ev_at rfl) (ev_at rfl) (slT rfl) (szT rfl) (by first | assumption | exact IsSl.nil) (by omega)) ?_ | refine xp 30 rfl rfl (fun w => ex_ia (ev_at rfl) (ev_at rfl) (slT rfl) (szT rfl) (by first | assumption | exact IsSl.nil) (by omega) (by omega)) ?_); refine xr 31 hS rfl rfl (fun w X hS => ex_load (ev_at rfl) (ldE1 (u := byteV c3) (hr.rd hS) hv (m := 4 * t) (by omega) (kdT rfl) (byteGet g3 (by omega)))) ?_; refine xp 32 rfl rfl (fun w => ex_conv8_32 (ev_at rfl) (inT rfl) (kdT rfl)) ?_; refine xp 33 rfl rfl (fun w => ex_or32 (ev_at rfl) (ev_at rfl)) ?_; (first | refine xp 34 rfl rfl (fun w => ex_iaA (ev_at rfl) (ev_at rfl) (arT rfl) (szT rfl) (by omega) (by omega)) ?_ | refine xp 34 rfl rfl (fun w => ex_iaAE (ev_at rfl) (ev_at rfl) (arT rfl) (szT rfl) (by assumption) (by omega) (by omega) (by omega)) ?_); refine wg_loud 35 (by decide +kernel) rfl rfl (wp_store1s (u := V32 (word c0 c1 c2 c3)) (ev_at rfl) (ev_at rfl) hS (szT rfl) (by rw [hmx]; omega) rfl fun w hS => ⟨gsF rfl, wg_n ?_⟩); refine wg_end (by decide +kernel) ?_; (try simp only [lset, splice, sub, List.take_succ_cons, List.take_zero, List.drop_succ_cons, List.drop_zero, List.nil_append, List.cons_append, List.length_cons, List.length_nil, Nat.reduceAdd, Nat.zero_add, rep_zero] at hS))
      | ((with_reducible apply wp_region_plain (id := 4)); refine xv (ex_move (ev_at rfl)) ?_; refine xv (ex_arith (ev_at rfl) (ev_const _ _) rfl (by first | exact IntWalk.i64_in _ (by omega) | rfl)) ?_; refine xv (ex_assign (ev_at rfl)) ?_; refine wl_nil ?_)
      | ((fail_if_success (with_reducible apply wp_region_plain)); (fail_if_success (with_reducible apply wp_region_GS)); go_step))
    have hset := mixN_set hW hlt hg (k := (t : Int).toNat * 1) (by omega)
    first | rw [hset] at hS | (rw [Nat.zero_add, hset] at hS)
    exact loopEndM rfl (64 - (t + 1)) ⟨t + 1, rfl, rfl, by omega, hS⟩ (by omega)
  · have hg := hhigh t h16 hlt
    repeat' (first
      | ((with_reducible apply wp_region_plain (id := 3)); refine xv (ex_move (ev_at rfl)) ?_; refine xv (ex_cmp (ev_at rfl) (ev_const _ _) (by first | exact lssT (by omega) | exact lssF (by omega) | rfl)) ?_; refine wl_nil ?_)
      | ((with_reducible apply wp_region_plain (id := 5)); refine xv (ex_move (ev_at rfl)) ?_; refine xv (ex_cmp (ev_at rfl) (ev_const _ _) (by first | exact lssT (by omega) | exact lssF (by omega) | rfl)) ?_; refine wl_nil ?_)
      | ((with_reducible apply wp_region_GS (id := 7) 10 (fun j => [0, 1, 2, 3, 4, 5, 6, 7, 8, 9].contains j) mixed); rfl; exact hS; (clear hS; intro w hS); refine xp 0 rfl rfl (fun w => ex_move (ev_at rfl)) ?_; refine xp 1 rfl rfl (fun w => ex_arith (ev_at rfl) (ev_const _ _) rfl (by first | exact IntWalk.i64_in _ (by omega) | rfl)) ?_; (first | refine xp 2 rfl rfl (fun w => ex_iaA (ev_at rfl) (ev_at rfl) (arT rfl) (szT rfl) (by omega) (by omega)) ?_ | refine xp 2 rfl rfl (fun w => ex_iaAE (ev_at rfl) (ev_at rfl) (arT rfl) (szT rfl) (by assumption) (by omega) (by omega) (by omega)) ?_); refine xr 3 hS rfl rfl (fun w X hS => ex_load (ev_at rfl) (ld1 (v := V32 (gt W (t - 2))) hS (kdT rfl) (mixN_get hW ht (by omega) (by omega)))) ?_; refine xp 4 rfl rfl (fun w => ex_move (ev_at rfl)) ?_; refine xp 5 rfl rfl (fun w => ex_arith (ev_at rfl) (ev_const _ _) rfl (by first | exact IntWalk.i64_in _ (by omega) | rfl)) ?_; (first | refine xp 6 rfl rfl (fun w => ex_iaA (ev_at rfl) (ev_at rfl) (arT rfl) (szT rfl) (by omega) (by omega)) ?_ | refine xp 6 rfl rfl (fun w => ex_iaAE (ev_at rfl) (ev_at rfl) (arT rfl) (szT rfl) (by assumption) (by omega) (by omega) (by omega)) ?_); refine xr 7 hS rfl rfl (fun w X hS => ex_load (ev_at rfl) (ld1 (v := V32 (gt W (t - 15))) hS (kdT rfl) (mixN_get hW ht (by omega) (by omega)))) ?_; refine xp 8 rfl rfl (fun w => ex_assign (ev_at rfl)) ?_; refine xp 9 rfl rfl (fun w => ex_assign (ev_at rfl)) ?_; refine wg_end (by decide +kernel) ?_)
      | ((with_reducible apply wp_region_GS (id := 8) 30 (fun j => [0, 1, 2, 3, 4, 5, 6, 7, 8, 9, 10, 11, 12, 13, 14, 15, 16, 17, 18, 19, 20, 21, 22, 23, 24, 25, 26, 27, 28].contains j) mixed); rfl; exact hS; (clear hS; intro w hS); refine xp 0 rfl rfl (fun w => ex_move (ev_at rfl)) ?_; refine xp 1 rfl rfl (fun w => ex_move (ev_at rfl)) ?_; refine xp 3 rfl rfl (fun w => ex_move (ev_at rfl)) ?_; refine xp 6 rfl rfl (fun w => ex_move (ev_at rfl)) ?_; refine xp 7 rfl rfl (fun w => ex_shr32 (s := 10) (ev_at rfl) (ev_const _ _) (by omega)) ?_; refine xp 9 rfl rfl (fun w => ex_move (ev_at rfl)) ?_; refine xp 10 rfl rfl (fun w => ex_arith (ev_at rfl) (ev_const _ _) rfl (by first | exact IntWalk.i64_in _ (by omega) | rfl)) ?_; (first | refine xp 11 rfl rfl (fun w => ex_iaA (ev_at rfl) (ev_at rfl) (arT rfl) (szT rfl) (by omega) (by omega)) ?_ | refine xp 11 rfl rfl (fun w => ex_iaAE (ev_at rfl) (ev_at rfl) (arT rfl) (szT rfl) (by assumption) (by omega) (by omega) (by omega)) ?_); refine xr 12 hS rfl rfl (fun w X hS => ex_load (ev_at rfl) (ld1 (v := V32 (gt W (t - 7))) hS (kdT rfl) (mixN_get hW ht (by omega) (by omega)))) ?_; refine xp 14 rfl rfl (fun w => ex_move (ev_at rfl)) ?_; refine xp 16 rfl rfl (fun w => ex_move (ev_at rfl)) ?_; refine xp 19 rfl rfl (fun w => ex_move (ev_at rfl)) ?_; refine xp 20 rfl rfl (fun w => ex_shr32 (s := 3) (ev_at rfl) (ev_const _ _) (by omega)) ?_; refine xp 23 rfl rfl (fun w => ex_move (ev_at rfl)) ?_; refine xp 24 rfl rfl (fun w => ex_arith (ev_at rfl) (ev_const _ _) rfl (by first | exact IntWalk.i64_in _ (by omega) | rfl)) ?_; (first | refine xp 25 rfl rfl (fun w => ex_iaA (ev_at rfl) (ev_at rfl) (arT rfl) (szT rfl) (by omega) (by omega)) ?_ | refine xp 25 rfl rfl (fun w => ex_iaAE (ev_at rfl) (ev_at rfl) (arT rfl) (szT rfl) (by assumption) (by omega) (by omega) (by omega)) ?_); refine xr 26 hS rfl rfl (fun w X hS => ex_load (ev_at rfl) (ld1 (v := V32 (gt W (t - 16))) hS (kdT rfl) (mixN_get hW ht (by omega) (by omega)))) ?_; refine wg_loud 2 (by decide +kernel) rfl rfl (wp_callL (cbT rfl) (EvL.c (ev_at rfl) (EvL.c (ev_const _ _) EvL.n)) ?_); refine (rotate_ct _ 17 (by omega) hS).mono ?_; rintro e w ⟨rfl, hS⟩; refine ⟨_, rfl, ⟨gsT hS, wg_p (by simp only [lset] <;> rfl) ?_⟩⟩; refine wg_loud 4 (by decide +kernel) rfl rfl (wp_callL (cbT rfl) (EvL.c (ev_at rfl) (EvL.c (ev_const _ _) EvL.n)) ?_); refine (rotate_ct _ 19 (by omega) hS).mono ?_; rintro e w ⟨rfl, hS⟩; refine ⟨_, rfl, ⟨gsT hS, wg_p (by simp only [lset] <;> rfl) ?_⟩⟩; refine xp 5 rfl rfl (fun w => ex_xor32 (ev_at rfl) (ev_at rfl)) ?_; refine xp 8 rfl rfl (fun w => ex_xor32 (ev_at rfl) (ev_at rfl)) ?_; refine xp 13 rfl rfl (fun w => ex_add32 (ev_at rfl) (ev_at rfl)) ?_; refine wg_loud 15 (by decide +kernel) rfl rfl (wp_callL (cbT rfl) (EvL.c (ev_at rfl) (EvL.c (ev_const _ _) EvL.n)) ?_); refine (rotate_ct _ 7 (by omega) hS).mono ?_; rintro e w ⟨rfl, hS⟩; refine ⟨_, rfl, ⟨gsT hS, wg_p (by simp only [lset] <;> rfl) ?_⟩⟩; refine wg_loud 17 (by decide +kernel) rfl rfl (wp_callL (cbT rfl) (EvL.c (ev_at rfl) (EvL.c (ev_const _ _) EvL.n)) ?_); refine (rotate_ct _ 18 (by omega) hS).mono ?_; rintro e w ⟨rfl, hS⟩; refine ⟨_, rfl, ⟨gsT hS, wg_p (by simp only [lset] <;> rfl) ?_⟩⟩; refine xp 18 rfl rfl (fun w => ex_xor32 (ev_at rfl) (ev_at rfl)) ?_; refine xp 21 rfl rfl (fun w => ex_xor32 (ev_at rfl) (ev_at rfl)) ?_; refine xp 22 rfl rfl (fun w => ex_add32 (ev_at rfl) (ev_at rfl)) ?_; refine xp 27 rfl rfl (fun w => ex_add32 (ev_at rfl) (ev_at rfl)) ?_; (first | refine xp 28 rfl rfl (fun w => ex_iaA (ev_at rfl) (ev_at rfl) (arT rfl) (szT rfl) (by omega) (by omega)) ?_ | refine xp 28 rfl rfl (fun w => ex_iaAE (ev_at rfl) (ev_at rfl) (arT rfl) (szT rfl) (by assumption) (by omega) (by omega) (by omega)) ?_); refine wg_loud 29 (by decide +kernel) rfl rfl (wp_store1s (u := V32 (g1 (gt W (t - 2)) + gt W (t - 7) + g0 (gt W (t - 15)) + gt W (t - 16))) (ev_at rfl) (ev_at rfl) hS (szT rfl) (by rw [hmx]; omega) rfl fun w hS => ⟨gsF rfl, wg_n ?_⟩); refine wg_end (by decide +kernel) ?_; (try simp only [lset, splice, sub, List.take_succ_cons, List.take_zero, List.drop_succ_cons, List.drop_zero, List.nil_append, List.cons_append, List.length_cons, List.length_nil, Nat.reduceAdd, Nat.zero_add, rep_zero] at hS))
      | ((with_reducible apply wp_region_plain (id := 4)); refine xv (ex_move (ev_at rfl)) ?_; refine xv (ex_arith (ev_at rfl) (ev_const _ _) rfl (by first | exact IntWalk.i64_in _ (by omega) | rfl)) ?_; refine xv (ex_assign (ev_at rfl)) ?_; refine wl_nil ?_)
      | ((fail_if_success (with_reducible apply wp_region_plain)); (fail_if_success (with_reducible apply wp_region_GS)); go_step))
    have hset := mixN_set hW hlt hg (k := (t : Int).toNat * 1) (by omega)
    first | rw [hset] at hS | (rw [Nat.zero_add, hset] at hS)
    exact loopEndM rfl (64 - (t + 1)) ⟨t + 1, rfl, rfl, by omega, hS⟩ (by omega)
end
end Go.Proofs.Try
