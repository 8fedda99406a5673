/- The reference of records: contracts (2): number, value, Seal, Encode. -/
import Derived.Test.YtjklnjpmjdbogaaE1
namespace Go.Proofs.Try
open Go.RowKit Go.SL Go.SH Go.RC
set_option maxRecDepth 100000
set_option linter.unusedSimpArgs false
set_option linter.unusedVariables false
section
variable {w : World} {I : Gh} {L : List Ch}
theorem beN_cons (i m : Nat) : beN (i + 1) m = UInt8.ofNat (m / 256 ^ i) :: beN i m := by
  unfold beN
  rw [List.range_succ_eq_map]
  simp only [List.map_cons, List.map_map]
  congr 1
  · rw [show i + 1 - 1 - 0 = i from by omega, Nat.pow_mul]
  · apply List.map_congr_left
    intro j hj
    simp only [Function.comp]
    congr 3
    omega
theorem ofNat_mod (x : Nat) : (((UInt8.ofNat x).toNat : Nat) : Int) = (x : Int) % 256 := by
  simp [UInt8.toNat_ofNat']
set_option maxHeartbeats 4000000 in
theorem number_ct (m : Int) (s : Nat) (h0 : 0 ≤ m) (h1 : m ≤ 4611686018427387904) (hs : s ≤ 8) (hS : Sat w I L) : Calls Try.prog 54 #[.int .i64 m, .int .i64 (s : Int)] w fun e w' => ∃ u, e = .returned u ∧ IsSl u s ∧ Sat w' I (Row u 5 1 s ((be s m).map byteV) :: L) := by
  obtain ⟨m, rfl⟩ := Int.eq_ofNat_of_zero_le h0
  rw [be_beN]
  go_enter Try.func54, Try.ntmps54
  repeat' (first
    | ((with_reducible apply wp_region_plain (id := 0)); refine xv (ex_assign (ev_const _ _)) ?_; refine wl_nil ?_)
    | ((with_reducible apply wp_region_plain (id := 1)); refine xv (ex_assign (ev_const _ _)) ?_; refine wl_nil ?_)
    | ((with_reducible apply wp_region_plain (id := 2)); refine xv (ex_assign (ev_const _ _)) ?_; refine wl_nil ?_)
    | ((with_reducible apply wp_region_plain (id := 3)); refine xv (ex_move (ev_at rfl)) ?_; refine xv (ex_move (ev_at rfl)) ?_; refine xv (ex_cmp (ev_at rfl) (ev_at rfl) (by first | exact lssT (by omega) | exact lssF (by omega) | rfl)) ?_; refine wl_nil ?_)
    | ((with_reducible apply wp_region_plain (id := 5)); refine xv (ex_move (ev_at rfl)) ?_; refine xv (ex_rem (ev_at rfl) (ev_const _ _) (by first | decide | omega) (by omega)) ?_; refine xv (ex_convII (ev_at rfl) (inT rfl) (kdT rfl) (by first | exact IntWalk.u8_in _ (by omega) | rfl)) ?_; refine wl_of rfl (wp_buildSlice (slT rfl) (szT rfl) (zeT rfl) (fillsOne1 (ev_at rfl) (by first | rfl | exact IsSl.one (by assumption))) hS rfl (by first | rfl | assumption | (simp only [sub, splice, List.take_succ_cons, List.take_zero, List.drop_succ_cons, List.drop_zero, List.nil_append, List.cons_append, List.length_cons, List.length_nil, Nat.reduceAdd, List.all_cons, List.all_nil, Bool.and_eq_true, Bool.and_true]; ((repeat' apply And.intro) <;> first | rfl | assumption | exact IsSl.one (by assumption)))) fun b15 w hS => wl_put (by simp only [lset] <;> rfl) ?_); refine xv (ex_move (ev_at rfl)) ?_; refine wl_of rfl (wp_append (ev_at rfl) (ev_at rfl) (slT rfl) (szT rfl) (byT rfl) (zeT rfl) hS (by first | exact srcR hS | exact srcI hS (by assumption) (by assumption)) (by omega) (by omega) rfl fun v17 w hS hv17 => wl_put (by simp only [lset] <;> rfl) ?_); refine xv (ex_assign (ev_at rfl)) ?_; refine wl_nil ?_; (try simp only [lset, splice, sub, List.take_succ_cons, List.take_zero, List.drop_succ_cons, List.drop_zero, List.nil_append, List.cons_append, List.length_cons, List.length_nil, Nat.reduceAdd, Nat.zero_add, rep_zero] at hS))
    | ((with_reducible apply wp_region_plain (id := 6)); refine xv (ex_move (ev_at rfl)) ?_; refine xv (ex_quo (ev_at rfl) (ev_const _ _) (by first | decide | omega) (by omega) (by first | exact IntWalk.i64_in _ (by omega) | rfl)) ?_; refine xv (ex_assign (ev_at rfl)) ?_; refine wl_nil ?_)
    | ((with_reducible apply wp_region_plain (id := 4)); refine xv (ex_move (ev_at rfl)) ?_; refine xv (ex_arith (ev_at rfl) (ev_const _ _) rfl (by first | exact IntWalk.i64_in _ (by omega) | rfl)) ?_; refine xv (ex_assign (ev_at rfl)) ?_; refine wl_nil ?_)
    | ((with_reducible apply wp_region_plain (id := 7)); refine xv (ex_move (ev_at rfl)) ?_; refine xv (ex_assign (ev_at rfl)) ?_; refine wl_nil ?_)
    | ((fail_if_success (with_reducible apply wp_region_plain)); (fail_if_success (with_reducible apply wp_region_GS)); go_step))
  have hS := hS.nilRow 5 1
  refine wp_loopM [true, false, false, false, false, true, true, true, true, true, true, true, true, true, true, true, true, true, true, true] (fun n f w => ∃ (i : Nat) (u : Value), n = s - i ∧ f 0 = .int .i64 ((m / 256 ^ i : Nat) : Int) ∧ f 5 = u ∧ f 6 = .int .i64 i ∧ i ≤ s ∧ Sat w I (Row u 5 1 i ((beN i m).map byteV) :: L)) rfl s ⟨0, .slice none 0 0, rfl, by rw [Nat.pow_zero, Nat.div_one]; rfl, rfl, rfl, by omega, hS⟩ ?_
  clear hS
  rintro n f w ⟨i, u, rfl, h0', h5, h6, hi, hS⟩
  simp only [havoc, Nat.reduceAdd, h0', h5, h6]
  have hui := (hS.rowH (v := u)).1
  by_cases hlt : i < s
  case neg =>
    have : i = s := by omega
    subst this
    repeat' (first
      | ((with_reducible apply wp_region_plain (id := 0)); refine xv (ex_assign (ev_const _ _)) ?_; refine wl_nil ?_)
      | ((with_reducible apply wp_region_plain (id := 1)); refine xv (ex_assign (ev_const _ _)) ?_; refine wl_nil ?_)
      | ((with_reducible apply wp_region_plain (id := 2)); refine xv (ex_assign (ev_const _ _)) ?_; refine wl_nil ?_)
      | ((with_reducible apply wp_region_plain (id := 3)); refine xv (ex_move (ev_at rfl)) ?_; refine xv (ex_move (ev_at rfl)) ?_; refine xv (ex_cmp (ev_at rfl) (ev_at rfl) (by first | exact lssT (by omega) | exact lssF (by omega) | rfl)) ?_; refine wl_nil ?_)
      | ((with_reducible apply wp_region_plain (id := 5)); refine xv (ex_move (ev_at rfl)) ?_; refine xv (ex_rem (ev_at rfl) (ev_const _ _) (by first | decide | omega) (by omega)) ?_; refine xv (ex_convII (ev_at rfl) (inT rfl) (kdT rfl) (by first | exact IntWalk.u8_in _ (by omega) | rfl)) ?_; refine wl_of rfl (wp_buildSlice (slT rfl) (szT rfl) (zeT rfl) (fillsOne1 (ev_at rfl) (by first | rfl | exact IsSl.one (by assumption))) hS rfl (by first | rfl | assumption | (simp only [sub, splice, List.take_succ_cons, List.take_zero, List.drop_succ_cons, List.drop_zero, List.nil_append, List.cons_append, List.length_cons, List.length_nil, Nat.reduceAdd, List.all_cons, List.all_nil, Bool.and_eq_true, Bool.and_true]; ((repeat' apply And.intro) <;> first | rfl | assumption | exact IsSl.one (by assumption)))) fun b15 w hS => wl_put (by simp only [lset] <;> rfl) ?_); refine xv (ex_move (ev_at rfl)) ?_; refine wl_of rfl (wp_append (ev_at rfl) (ev_at rfl) (slT rfl) (szT rfl) (byT rfl) (zeT rfl) hS (by first | exact srcR hS | exact srcI hS (by assumption) (by assumption)) (by omega) (by omega) rfl fun v17 w hS hv17 => wl_put (by simp only [lset] <;> rfl) ?_); refine xv (ex_assign (ev_at rfl)) ?_; refine wl_nil ?_; (try simp only [lset, splice, sub, List.take_succ_cons, List.take_zero, List.drop_succ_cons, List.drop_zero, List.nil_append, List.cons_append, List.length_cons, List.length_nil, Nat.reduceAdd, Nat.zero_add, rep_zero] at hS))
      | ((with_reducible apply wp_region_plain (id := 6)); refine xv (ex_move (ev_at rfl)) ?_; refine xv (ex_quo (ev_at rfl) (ev_const _ _) (by first | decide | omega) (by omega) (by first | exact IntWalk.i64_in _ (by omega) | rfl)) ?_; refine xv (ex_assign (ev_at rfl)) ?_; refine wl_nil ?_)
      | ((with_reducible apply wp_region_plain (id := 4)); refine xv (ex_move (ev_at rfl)) ?_; refine xv (ex_arith (ev_at rfl) (ev_const _ _) rfl (by first | exact IntWalk.i64_in _ (by omega) | rfl)) ?_; refine xv (ex_assign (ev_at rfl)) ?_; refine wl_nil ?_)
      | ((with_reducible apply wp_region_plain (id := 7)); refine xv (ex_move (ev_at rfl)) ?_; refine xv (ex_assign (ev_at rfl)) ?_; refine wl_nil ?_)
      | ((fail_if_success (with_reducible apply wp_region_plain)); (fail_if_success (with_reducible apply wp_region_GS)); go_step))
    refine end1 (by first | exact .inl rfl | exact .inr rfl) rfl (ResL.rt rfl ResL.rn) ?_
    exact ⟨u, rfl, hui, hS⟩
  have hx : m / 256 ^ i / 256 = m / 256 ^ (i + 1) := by rw [Nat.pow_succ, Nat.div_div_eq_div_mul]
  have hxl : m / 256 ^ i ≤ m := Nat.div_le_self _ _
  have hbc := beN_cons i m
  generalize m / 256 ^ i = x at hx hxl hbc
  have hom := ofNat_mod x
  repeat' (first
    | ((with_reducible apply wp_region_plain (id := 0)); refine xv (ex_assign (ev_const _ _)) ?_; refine wl_nil ?_)
    | ((with_reducible apply wp_region_plain (id := 1)); refine xv (ex_assign (ev_const _ _)) ?_; refine wl_nil ?_)
    | ((with_reducible apply wp_region_plain (id := 2)); refine xv (ex_assign (ev_const _ _)) ?_; refine wl_nil ?_)
    | ((with_reducible apply wp_region_plain (id := 3)); refine xv (ex_move (ev_at rfl)) ?_; refine xv (ex_move (ev_at rfl)) ?_; refine xv (ex_cmp (ev_at rfl) (ev_at rfl) (by first | exact lssT (by omega) | exact lssF (by omega) | rfl)) ?_; refine wl_nil ?_)
    | ((with_reducible apply wp_region_plain (id := 5)); refine xv (ex_move (ev_at rfl)) ?_; refine xv (ex_rem (ev_at rfl) (ev_const _ _) (by first | decide | omega) (by omega)) ?_; refine xv (ex_convII (s := ((UInt8.ofNat x).toNat : Int)) (ev_at rfl) (inT rfl) (kdT rfl) (by rw [hom]; exact IntWalk.u8_in _ (by omega))) ?_; refine wl_of rfl (wp_buildSlice (slT rfl) (szT rfl) (zeT rfl) (fillsOne1 (ev_at rfl) (by first | rfl | exact IsSl.one (by assumption))) hS rfl (by first | rfl | assumption | (simp only [sub, splice, List.take_succ_cons, List.take_zero, List.drop_succ_cons, List.drop_zero, List.nil_append, List.cons_append, List.length_cons, List.length_nil, Nat.reduceAdd, List.all_cons, List.all_nil, Bool.and_eq_true, Bool.and_true]; ((repeat' apply And.intro) <;> first | rfl | assumption | exact IsSl.one (by assumption)))) fun b15 w hS => wl_put (by simp only [lset] <;> rfl) ?_); refine xv (ex_move (ev_at rfl)) ?_; refine wl_of rfl (wp_append (ev_at rfl) (ev_at rfl) (slT rfl) (szT rfl) (byT rfl) (zeT rfl) hS (by first | exact srcR hS | exact srcI hS (by assumption) (by assumption)) (by omega) (by omega) rfl fun v17 w hS hv17 => wl_put (by simp only [lset] <;> rfl) ?_); refine xv (ex_assign (ev_at rfl)) ?_; refine wl_nil ?_; (try simp only [lset, splice, sub, List.take_succ_cons, List.take_zero, List.drop_succ_cons, List.drop_zero, List.nil_append, List.cons_append, List.length_cons, List.length_nil, Nat.reduceAdd, Nat.zero_add, rep_zero] at hS))
    | ((with_reducible apply wp_region_plain (id := 6)); refine xv (ex_move (ev_at rfl)) ?_; refine xv (ex_quo (r := ((x / 256 : Nat) : Int)) (ev_at rfl) (ev_const _ _) (by decide) (by omega) (by rw [IntWalk.i64_in _ (by omega)]; omega)) ?_; refine xv (ex_assign (ev_at rfl)) ?_; refine wl_nil ?_)
    | ((with_reducible apply wp_region_plain (id := 4)); refine xv (ex_move (ev_at rfl)) ?_; refine xv (ex_arith (ev_at rfl) (ev_const _ _) rfl (by first | exact IntWalk.i64_in _ (by omega) | rfl)) ?_; refine xv (ex_assign (ev_at rfl)) ?_; refine wl_nil ?_)
    | ((with_reducible apply wp_region_plain (id := 7)); refine xv (ex_move (ev_at rfl)) ?_; refine xv (ex_assign (ev_at rfl)) ?_; refine wl_nil ?_)
    | ((fail_if_success (with_reducible apply wp_region_plain)); (fail_if_success (with_reducible apply wp_region_GS)); go_step))
  have e : [Value.int .u8 ((UInt8.ofNat x).toNat : Int)] ++ (beN i m).map byteV = (beN (i + 1) m).map byteV := by rw [hbc]; rfl
  have hS := hS.del1
  refine loopEndM rfl (s - (i + 1)) ⟨i + 1, _, rfl, by rw [← hx]; rfl, rfl, rfl, by omega, ?_⟩ (by omega)
  rw [← e, Nat.add_comm i 1]
  exact hS
set_option maxHeartbeats 4000000 in
theorem value_ct (v : Value) (bs : List UInt8) (n : Nat) (hv : IsSl v n) (hl : bs.length = n) (hr : Rds I L v (bs.map byteV)) (hb : n ≤ 4) (hS : Sat w I L) : Calls Try.prog 57 #[v] w fun e w' => e = .returned (.int .i64 (val bs)) ∧ Sat w' I L := by
  go_enter Try.func57, Try.ntmps57
  repeat' (first
    | ((with_reducible apply wp_region_plain (id := 0)); refine xv (ex_assign (ev_const _ _)) ?_; refine wl_nil ?_)
    | ((with_reducible apply wp_region_plain (id := 1)); refine xv (ex_assign (ev_const _ _)) ?_; refine wl_nil ?_)
    | ((with_reducible apply wp_region_plain (id := 2)); refine xv (ex_assign (ev_const _ _)) ?_; refine wl_nil ?_)
    | ((with_reducible apply wp_region_plain (id := 3)); refine xv (ex_move (ev_at rfl)) ?_; refine xv (ex_move (ev_at rfl)) ?_; refine xv (ex_len (ev_at rfl) (slT rfl) (by first | assumption | exact IsSl.nil)) ?_; refine xv (ex_cmp (ev_at rfl) (ev_at rfl) (by first | exact lssT (by omega) | exact lssF (by omega) | rfl)) ?_; refine wl_nil ?_)
    | ((with_reducible apply wp_region_plain (id := 5)); refine xv (ex_move (ev_at rfl)) ?_; refine xv (ex_arith (ev_at rfl) (ev_const _ _) rfl (by first | exact IntWalk.i64_in _ (by omega) | rfl)) ?_; refine xv (ex_move (ev_at rfl)) ?_; refine xv (ex_move (ev_at rfl)) ?_; (first | refine xv (ex_iaN (ev_at rfl) (ev_at rfl) (slT rfl) (szT rfl) (by first | assumption | exact IsSl.nil) (by omega)) ?_ | refine xv (ex_ia (ev_at rfl) (ev_at rfl) (slT rfl) (szT rfl) (by first | assumption | exact IsSl.nil) (by omega) (by omega)) ?_); refine xv (ex_load (ev_at rfl) (ld1 hS (kdT rfl) rfl)) ?_; refine xv (ex_convII (ev_at rfl) (inT rfl) (kdT rfl) (by first | exact IntWalk.i64_in _ (by omega) | rfl)) ?_; refine xv (ex_arith (ev_at rfl) (ev_at rfl) rfl (by first | exact IntWalk.i64_in _ (by omega) | rfl)) ?_; refine xv (ex_assign (ev_at rfl)) ?_; refine wl_nil ?_)
    | ((with_reducible apply wp_region_plain (id := 4)); refine xv (ex_move (ev_at rfl)) ?_; refine xv (ex_arith (ev_at rfl) (ev_const _ _) rfl (by first | exact IntWalk.i64_in _ (by omega) | rfl)) ?_; refine xv (ex_assign (ev_at rfl)) ?_; refine wl_nil ?_)
    | ((with_reducible apply wp_region_plain (id := 6)); refine xv (ex_move (ev_at rfl)) ?_; refine xv (ex_assign (ev_at rfl)) ?_; refine wl_nil ?_)
    | ((fail_if_success (with_reducible apply wp_region_plain)); (fail_if_success (with_reducible apply wp_region_GS)); go_step))
  refine wp_loopM [false, false, false, true, true, true, true, true, true, true, true, true, true, true, true, true, true, true, true] (fun m f w => ∃ i : Nat, m = n - i ∧ f 3 = .int .i64 (val (bs.take i)) ∧ f 4 = .int .i64 i ∧ i ≤ n ∧ Sat w I L) rfl n ⟨0, rfl, rfl, rfl, by omega, hS⟩ ?_
  clear hS
  rintro m f w ⟨i, rfl, h3, h4, hi, hS⟩
  simp only [havoc, Nat.reduceAdd, h3, h4]
  by_cases hlt : i < n
  case neg =>
    rw [List.take_of_length_le (by omega)]
    repeat' (first
      | ((with_reducible apply wp_region_plain (id := 0)); refine xv (ex_assign (ev_const _ _)) ?_; refine wl_nil ?_)
      | ((with_reducible apply wp_region_plain (id := 1)); refine xv (ex_assign (ev_const _ _)) ?_; refine wl_nil ?_)
      | ((with_reducible apply wp_region_plain (id := 2)); refine xv (ex_assign (ev_const _ _)) ?_; refine wl_nil ?_)
      | ((with_reducible apply wp_region_plain (id := 3)); refine xv (ex_move (ev_at rfl)) ?_; refine xv (ex_move (ev_at rfl)) ?_; refine xv (ex_len (ev_at rfl) (slT rfl) (by first | assumption | exact IsSl.nil)) ?_; refine xv (ex_cmp (ev_at rfl) (ev_at rfl) (by first | exact lssT (by omega) | exact lssF (by omega) | rfl)) ?_; refine wl_nil ?_)
      | ((with_reducible apply wp_region_plain (id := 5)); refine xv (ex_move (ev_at rfl)) ?_; refine xv (ex_arith (ev_at rfl) (ev_const _ _) rfl (by first | exact IntWalk.i64_in _ (by omega) | rfl)) ?_; refine xv (ex_move (ev_at rfl)) ?_; refine xv (ex_move (ev_at rfl)) ?_; (first | refine xv (ex_iaN (ev_at rfl) (ev_at rfl) (slT rfl) (szT rfl) (by first | assumption | exact IsSl.nil) (by omega)) ?_ | refine xv (ex_ia (ev_at rfl) (ev_at rfl) (slT rfl) (szT rfl) (by first | assumption | exact IsSl.nil) (by omega) (by omega)) ?_); refine xv (ex_load (ev_at rfl) (ld1 hS (kdT rfl) rfl)) ?_; refine xv (ex_convII (ev_at rfl) (inT rfl) (kdT rfl) (by first | exact IntWalk.i64_in _ (by omega) | rfl)) ?_; refine xv (ex_arith (ev_at rfl) (ev_at rfl) rfl (by first | exact IntWalk.i64_in _ (by omega) | rfl)) ?_; refine xv (ex_assign (ev_at rfl)) ?_; refine wl_nil ?_)
      | ((with_reducible apply wp_region_plain (id := 4)); refine xv (ex_move (ev_at rfl)) ?_; refine xv (ex_arith (ev_at rfl) (ev_const _ _) rfl (by first | exact IntWalk.i64_in _ (by omega) | rfl)) ?_; refine xv (ex_assign (ev_at rfl)) ?_; refine wl_nil ?_)
      | ((with_reducible apply wp_region_plain (id := 6)); refine xv (ex_move (ev_at rfl)) ?_; refine xv (ex_assign (ev_at rfl)) ?_; refine wl_nil ?_)
      | ((fail_if_success (with_reducible apply wp_region_plain)); (fail_if_success (with_reducible apply wp_region_GS)); go_step))
    refine end1 (by first | exact .inl rfl | exact .inr rfl) rfl (ResL.rt rfl ResL.rn) ?_
    exact ⟨rfl, hS⟩
  obtain ⟨c, hc⟩ : ∃ c, bs[i]? = some c := ⟨_, List.getElem?_eq_getElem (by omega)⟩
  have hsn : val (bs.take (i + 1)) = val (bs.take i) * 256 + c.toNat := by rw [List.take_add_one, hc]; exact val_snoc _ _
  have h1 := val_valN (bs.take i)
  have h2 := valN_lt (bs.take i)
  have h3' : valN (bs.take i) < 256 ^ 4 := Nat.lt_of_lt_of_le h2 (Nat.pow_le_pow_right (by omega) (by simp; omega))
  rw [show (256 : Nat) ^ 4 = 4294967296 from rfl] at h3'
  have hc8 := c.toNat_lt
  generalize val (bs.take i) = x at h1 hsn
  repeat' (first
    | ((with_reducible apply wp_region_plain (id := 0)); refine xv (ex_assign (ev_const _ _)) ?_; refine wl_nil ?_)
    | ((with_reducible apply wp_region_plain (id := 1)); refine xv (ex_assign (ev_const _ _)) ?_; refine wl_nil ?_)
    | ((with_reducible apply wp_region_plain (id := 2)); refine xv (ex_assign (ev_const _ _)) ?_; refine wl_nil ?_)
    | ((with_reducible apply wp_region_plain (id := 3)); refine xv (ex_move (ev_at rfl)) ?_; refine xv (ex_move (ev_at rfl)) ?_; refine xv (ex_len (ev_at rfl) (slT rfl) (by first | assumption | exact IsSl.nil)) ?_; refine xv (ex_cmp (ev_at rfl) (ev_at rfl) (by first | exact lssT (by omega) | exact lssF (by omega) | rfl)) ?_; refine wl_nil ?_)
    | ((with_reducible apply wp_region_plain (id := 5)); refine xv (ex_move (ev_at rfl)) ?_; refine xv (ex_arith (ev_at rfl) (ev_const _ _) rfl (by first | exact IntWalk.i64_in _ (by omega) | rfl)) ?_; refine xv (ex_move (ev_at rfl)) ?_; refine xv (ex_move (ev_at rfl)) ?_; (first | refine xv (ex_iaN (ev_at rfl) (ev_at rfl) (slT rfl) (szT rfl) (by first | assumption | exact IsSl.nil) (by omega)) ?_ | refine xv (ex_ia (ev_at rfl) (ev_at rfl) (slT rfl) (szT rfl) (by first | assumption | exact IsSl.nil) (by omega) (by omega)) ?_); refine xv (ex_load (ev_at rfl) (ldE1 (u := byteV c) (hr.rd hS) hv (m := i) hlt (kdT rfl) (byteGet hc (by omega)))) ?_; refine xv (ex_convII (s := (c.toNat : Int)) (ev_at rfl) (inT rfl) (kdT rfl) (IntWalk.i64_in _ (by omega))) ?_; refine xv (ex_arith (ev_at rfl) (ev_at rfl) rfl (by first | exact IntWalk.i64_in _ (by omega) | rfl)) ?_; refine xv (ex_assign (ev_at rfl)) ?_; refine wl_nil ?_)
    | ((with_reducible apply wp_region_plain (id := 4)); refine xv (ex_move (ev_at rfl)) ?_; refine xv (ex_arith (ev_at rfl) (ev_const _ _) rfl (by first | exact IntWalk.i64_in _ (by omega) | rfl)) ?_; refine xv (ex_assign (ev_at rfl)) ?_; refine wl_nil ?_)
    | ((with_reducible apply wp_region_plain (id := 6)); refine xv (ex_move (ev_at rfl)) ?_; refine xv (ex_assign (ev_at rfl)) ?_; refine wl_nil ?_)
    | ((fail_if_success (with_reducible apply wp_region_plain)); (fail_if_success (with_reducible apply wp_region_GS)); go_step))
  exact loopEndM rfl (n - (i + 1)) ⟨i + 1, rfl, by rw [hsn]; rfl, rfl, by omega, hS⟩ (by omega)
theorem Rds.cellsTake {b n m : Nat} {E : TypeId} {cs : List Value} (k : Nat) : Rds I (Cells b E cs :: L) (.slice (some ⟨b, 0, none⟩) n m) (cs.take k) := fun w X hS p n' c' e => (Rds.cells0 (n := n) (m := m) w X hS p n' c' e).take k
theorem fill_take (bs : List UInt8) (k : Nat) (h : (240 ≤ bs.length ∧ k = 0) ∨ bs.length + k = 240) : (bs ++ List.replicate k 0).take 240 = fill240 bs := by
  rcases h with ⟨h1, rfl⟩ | h
  · rw [fill240, List.replicate_zero, List.append_nil, show 240 - bs.length = 0 from by omega, List.replicate_zero, List.append_nil]
  · rw [fill240, show k = 240 - bs.length from by omega]
set_option maxHeartbeats 4000000 in
theorem seal_ct (v : Value) (bs : List UInt8) (n : Nat) (hv : IsSl v n) (hl : bs.length = n) (hr : Rds I L v (bs.map byteV)) (hb : n ≤ 1099511627) (hS : Sat w I L) : Calls Try.prog 55 #[v] w fun e w' => ∃ u, e = .returned u ∧ IsSl u 256 ∧ Sat w' I (Row u 5 1 256 ((sealB bs).map byteV) :: L) := by
  go_enter Try.func55, Try.ntmps55
  repeat' (first
    | ((with_reducible apply wp_region_plain (id := 0)); refine xv (ex_assign (ev_const _ _)) ?_; refine wl_nil ?_)
    | ((with_reducible apply wp_region_plain (id := 1)); refine wl_of rfl (wp_buildSlice (slT rfl) (szT rfl) (zeT rfl) Fills.nil hS rfl (by first | rfl | assumption) fun b5 w hS => wl_put (by simp only [lset] <;> rfl) ?_); refine xv (ex_move (ev_at rfl)) ?_; refine wl_of rfl (wp_append (ev_at rfl) (ev_at rfl) (slT rfl) (szT rfl) (byT rfl) (zeT rfl) hS (Rds.src hr hS hv (by simp [hl]) (byteV_Oc _)) (by omega) (by omega) rfl fun v7 w hS hv7 => wl_put (by simp only [lset] <;> rfl) ?_); refine xv (ex_assign (ev_at rfl)) ?_; refine wl_nil ?_; (try simp only [lset, splice, sub, List.take_succ_cons, List.take_zero, List.drop_succ_cons, List.drop_zero, List.nil_append, List.cons_append, List.length_cons, List.length_nil, Nat.reduceAdd, Nat.zero_add, rep_zero] at hS))
    | ((with_reducible apply wp_region_plain (id := 2)); refine xv (ex_move (ev_at rfl)) ?_; refine xv (ex_len (ev_at rfl) (slT rfl) (by first | assumption | exact IsSl.nil)) ?_; refine xv (ex_cmp (ev_at rfl) (ev_const _ _) (by first | exact lssT (by omega) | exact lssF (by omega) | rfl)) ?_; refine wl_nil ?_)
    | ((with_reducible apply wp_region_plain (id := 3)); refine xv (ex_move (ev_at rfl)) ?_; refine wl_of rfl (wp_buildSlice (slT rfl) (szT rfl) (zeT rfl) (fillsOne1 (ev_const _ _) (by first | rfl | exact IsSl.one (by assumption))) hS rfl (by first | rfl | assumption | (simp only [sub, splice, List.take_succ_cons, List.take_zero, List.drop_succ_cons, List.drop_zero, List.nil_append, List.cons_append, List.length_cons, List.length_nil, Nat.reduceAdd, List.all_cons, List.all_nil, Bool.and_eq_true, Bool.and_true]; ((repeat' apply And.intro) <;> first | rfl | assumption | exact IsSl.one (by assumption)))) fun b12 w hS => wl_put (by simp only [lset] <;> rfl) ?_); refine wl_of rfl (wp_append1 (ev_at rfl) (ev_at rfl) (slT rfl) (szT rfl) (byT rfl) (zeT rfl) hS (by omega) (by omega) rfl fun v13 w hS hv13 => wl_put (by simp only [lset] <;> rfl) ?_); refine xv (ex_assign (ev_at rfl)) ?_; refine wl_nil ?_; (try simp only [lset, splice, sub, List.take_succ_cons, List.take_zero, List.drop_succ_cons, List.drop_zero, List.nil_append, List.cons_append, List.length_cons, List.length_nil, Nat.reduceAdd, Nat.zero_add, rep_zero] at hS))
    | ((with_reducible apply wp_region_plain (id := 4)); refine xv (ex_move (ev_at rfl)) ?_; refine xv (ex_sliceH (ev_at rfl) (ev_const _ _) (slT rfl) (szT rfl) (by first | assumption | exact IsSl.nil) (by omega) (by omega)) ?_; refine xv (ex_assign (ev_at rfl)) ?_; refine wl_nil ?_)
    | ((with_reducible apply wp_region_plain (id := 5)); refine xv (ex_move (ev_at rfl)) ?_; fail "no contract for bulletin/bulletinref05.Sum (56)"; refine wl_of rfl (wp_alloc hS (zeT rfl) fun b4 w hS => wl_put (by simp only [lset] <;> rfl) ?_); refine wl_of rfl (wp_storeN (ev_at rfl) (ev_at rfl) hS (szT rfl) rfl (by first | rfl | assumption | (simp only [sub, splice, List.take_succ_cons, List.take_zero, List.drop_succ_cons, List.drop_zero, List.nil_append, List.cons_append, List.length_cons, List.length_nil, Nat.reduceAdd, List.all_cons, List.all_nil, Bool.and_eq_true, Bool.and_true]; ((repeat' apply And.intro) <;> first | rfl | assumption | exact IsSl.one (by assumption)))) fun w hS => wl_put0 ?_); refine wl_nil ?_; (try simp only [lset, splice, sub, List.take_succ_cons, List.take_zero, List.drop_succ_cons, List.drop_zero, List.nil_append, List.cons_append, List.length_cons, List.length_nil, Nat.reduceAdd, Nat.zero_add, rep_zero] at hS))
    | ((with_reducible apply wp_region_plain (id := 6)); refine wl_of rfl (wp_buildSlice (slT rfl) (szT rfl) (zeT rfl) Fills.nil hS rfl (by first | rfl | assumption) fun b18 w hS => wl_put (by simp only [lset] <;> rfl) ?_); refine xv (ex_sliceAH (ev_at rfl) (ev_const _ _) (arT rfl) (szT rfl) (by omega) (by omega)) ?_; refine wl_of rfl (wp_append (ev_at rfl) (ev_at rfl) (slT rfl) (szT rfl) (byT rfl) (zeT rfl) hS (by first | exact srcR hS | exact srcI hS (by assumption) (by assumption)) (by omega) (by omega) rfl fun v20 w hS hv20 => wl_put (by simp only [lset] <;> rfl) ?_); refine xv (ex_move (ev_at rfl)) ?_; refine wl_of rfl (wp_append (ev_at rfl) (ev_at rfl) (slT rfl) (szT rfl) (byT rfl) (zeT rfl) hS (by first | exact srcR hS | exact srcI hS (by assumption) (by assumption)) (by omega) (by omega) rfl fun v22 w hS hv22 => wl_put (by simp only [lset] <;> rfl) ?_); refine xv (ex_assign (ev_at rfl)) ?_; refine wl_nil ?_; (try simp only [lset, splice, sub, List.take_succ_cons, List.take_zero, List.drop_succ_cons, List.drop_zero, List.nil_append, List.cons_append, List.length_cons, List.length_nil, Nat.reduceAdd, Nat.zero_add, rep_zero] at hS))
    | ((fail_if_success (with_reducible apply wp_region_plain)); (fail_if_success (with_reducible apply wp_region_GS)); go_step))
  refine wp_loopM [false, false, false, true, false, false, false, false, true, true, true, true, true, true] (fun m f w => ∃ (k : Nat) (u : Value), m = 240 - n - k ∧ f 3 = u ∧ (k = 0 ∨ n + k ≤ 240) ∧ Sat w I (Row u 5 1 (n + k) ((bs ++ List.replicate k 0).map byteV) :: L)) rfl (240 - n) ⟨0, v7, rfl, rfl, .inl rfl, by simpa using hS⟩ ?_
  clear hS
  rintro m f w ⟨k, u, rfl, h3, hk, hS⟩
  simp only [havoc, Nat.reduceAdd, h3]
  have hui := (hS.rowH (v := u)).1
  by_cases hlt : n + k < 240
  case pos =>
    repeat' (first
      | ((with_reducible apply wp_region_plain (id := 0)); refine xv (ex_assign (ev_const _ _)) ?_; refine wl_nil ?_)
      | ((with_reducible apply wp_region_plain (id := 1)); refine wl_of rfl (wp_buildSlice (slT rfl) (szT rfl) (zeT rfl) Fills.nil hS rfl (by first | rfl | assumption) fun b5 w hS => wl_put (by simp only [lset] <;> rfl) ?_); refine xv (ex_move (ev_at rfl)) ?_; refine wl_of rfl (wp_append (ev_at rfl) (ev_at rfl) (slT rfl) (szT rfl) (byT rfl) (zeT rfl) hS (by first | exact srcR hS | exact srcI hS (by assumption) (by assumption)) (by omega) (by omega) rfl fun v7 w hS hv7 => wl_put (by simp only [lset] <;> rfl) ?_); refine xv (ex_assign (ev_at rfl)) ?_; refine wl_nil ?_; (try simp only [lset, splice, sub, List.take_succ_cons, List.take_zero, List.drop_succ_cons, List.drop_zero, List.nil_append, List.cons_append, List.length_cons, List.length_nil, Nat.reduceAdd, Nat.zero_add, rep_zero] at hS))
      | ((with_reducible apply wp_region_plain (id := 2)); refine xv (ex_move (ev_at rfl)) ?_; refine xv (ex_len (ev_at rfl) (slT rfl) (by first | assumption | exact IsSl.nil)) ?_; refine xv (ex_cmp (ev_at rfl) (ev_const _ _) (by first | exact lssT (by omega) | exact lssF (by omega) | rfl)) ?_; refine wl_nil ?_)
      | ((with_reducible apply wp_region_plain (id := 3)); refine xv (ex_move (ev_at rfl)) ?_; refine wl_of rfl (wp_buildSlice (slT rfl) (szT rfl) (zeT rfl) (fillsOne1 (ev_const _ _) (by first | rfl | exact IsSl.one (by assumption))) hS rfl (by first | rfl | assumption | (simp only [sub, splice, List.take_succ_cons, List.take_zero, List.drop_succ_cons, List.drop_zero, List.nil_append, List.cons_append, List.length_cons, List.length_nil, Nat.reduceAdd, List.all_cons, List.all_nil, Bool.and_eq_true, Bool.and_true]; ((repeat' apply And.intro) <;> first | rfl | assumption | exact IsSl.one (by assumption)))) fun b12 w hS => wl_put (by simp only [lset] <;> rfl) ?_); refine wl_of rfl (wp_append1 (ev_at rfl) (ev_at rfl) (slT rfl) (szT rfl) (byT rfl) (zeT rfl) hS (by omega) (by omega) rfl fun v13 w hS hv13 => wl_put (by simp only [lset] <;> rfl) ?_); refine xv (ex_assign (ev_at rfl)) ?_; refine wl_nil ?_; (try simp only [lset, splice, sub, List.take_succ_cons, List.take_zero, List.drop_succ_cons, List.drop_zero, List.nil_append, List.cons_append, List.length_cons, List.length_nil, Nat.reduceAdd, Nat.zero_add, rep_zero] at hS))
      | ((with_reducible apply wp_region_plain (id := 4)); refine xv (ex_move (ev_at rfl)) ?_; refine xv (ex_sliceH (ev_at rfl) (ev_const _ _) (slT rfl) (szT rfl) (by first | assumption | exact IsSl.nil) (by omega) (by omega)) ?_; refine xv (ex_assign (ev_at rfl)) ?_; refine wl_nil ?_)
      | ((with_reducible apply wp_region_plain (id := 5)); refine xv (ex_move (ev_at rfl)) ?_; fail "no contract for bulletin/bulletinref05.Sum (56)"; refine wl_of rfl (wp_alloc hS (zeT rfl) fun b4 w hS => wl_put (by simp only [lset] <;> rfl) ?_); refine wl_of rfl (wp_storeN (ev_at rfl) (ev_at rfl) hS (szT rfl) rfl (by first | rfl | assumption | (simp only [sub, splice, List.take_succ_cons, List.take_zero, List.drop_succ_cons, List.drop_zero, List.nil_append, List.cons_append, List.length_cons, List.length_nil, Nat.reduceAdd, List.all_cons, List.all_nil, Bool.and_eq_true, Bool.and_true]; ((repeat' apply And.intro) <;> first | rfl | assumption | exact IsSl.one (by assumption)))) fun w hS => wl_put0 ?_); refine wl_nil ?_; (try simp only [lset, splice, sub, List.take_succ_cons, List.take_zero, List.drop_succ_cons, List.drop_zero, List.nil_append, List.cons_append, List.length_cons, List.length_nil, Nat.reduceAdd, Nat.zero_add, rep_zero] at hS))
      | ((with_reducible apply wp_region_plain (id := 6)); refine wl_of rfl (wp_buildSlice (slT rfl) (szT rfl) (zeT rfl) Fills.nil hS rfl (by first | rfl | assumption) fun b18 w hS => wl_put (by simp only [lset] <;> rfl) ?_); refine xv (ex_sliceAH (ev_at rfl) (ev_const _ _) (arT rfl) (szT rfl) (by omega) (by omega)) ?_; refine wl_of rfl (wp_append (ev_at rfl) (ev_at rfl) (slT rfl) (szT rfl) (byT rfl) (zeT rfl) hS (by first | exact srcR hS | exact srcI hS (by assumption) (by assumption)) (by omega) (by omega) rfl fun v20 w hS hv20 => wl_put (by simp only [lset] <;> rfl) ?_); refine xv (ex_move (ev_at rfl)) ?_; refine wl_of rfl (wp_append (ev_at rfl) (ev_at rfl) (slT rfl) (szT rfl) (byT rfl) (zeT rfl) hS (by first | exact srcR hS | exact srcI hS (by assumption) (by assumption)) (by omega) (by omega) rfl fun v22 w hS hv22 => wl_put (by simp only [lset] <;> rfl) ?_); refine xv (ex_assign (ev_at rfl)) ?_; refine wl_nil ?_; (try simp only [lset, splice, sub, List.take_succ_cons, List.take_zero, List.drop_succ_cons, List.drop_zero, List.nil_append, List.cons_append, List.length_cons, List.length_nil, Nat.reduceAdd, Nat.zero_add, rep_zero] at hS))
      | ((fail_if_success (with_reducible apply wp_region_plain)); (fail_if_success (with_reducible apply wp_region_GS)); go_step))
    have e : (bs ++ List.replicate k 0).map byteV ++ [.int .u8 0] = (bs ++ List.replicate (k + 1) 0).map byteV := by
      rw [List.replicate_succ', ← List.append_assoc, List.map_append (l₂ := [0])]; rfl
    rw [e] at hS
    exact loopEndM rfl (240 - n - (k + 1)) ⟨k + 1, _, rfl, rfl, .inr (by omega), hS⟩ (by omega)
  have hft := fill_take bs k (by omega)
  have hv2 := hui.slv (l := 0) (h := 240) (sz := 1) (by omega) (by omega)
  rw [Nat.sub_zero] at hv2
  have hr2 : Rds I (Row u 5 1 (n + k) ((bs ++ List.replicate k 0).map byteV) :: L) (slv u 0 240 1) ((fill240 bs).map byteV) := by
    have := Rds.part (I := I) (L := Row u 5 1 (n + k) ((bs ++ List.replicate k 0).map byteV) :: L) Rds.row hui (l := 0) (h := 240) (by omega) (by omega)
    rwa [List.drop_zero, Nat.sub_zero, hft] at this
  have h240 := fill240_len bs
  have hsl : sealB bs = (SH.sha (fill240 bs)).take 16 ++ fill240 bs := rfl
  generalize fill240 bs = Z at hr2 h240 hsl
  have hsm := fun (w : World) (L2 : List Ch) (hr2 : Rds I L2 (slv u 0 240 1) (Z.map byteV)) hS => rsum_ct (w := w) (I := I) (L := L2) (slv u 0 240 1) Z 240 hv2 h240 hr2 (by omega) hS
  have hdl : ((SH.sha Z).map byteV).length = 32 := by simp [shaLen]
  have htk : ((SH.sha Z).map byteV).take 16 = ((SH.sha Z).take 16).map byteV := by rw [List.map_take]
  generalize hdv : (SH.sha Z).map byteV = dv at hsm hdl htk
  have hdo : Oc dv := by rw [← hdv]; exact byteV_Oc _
  have hd2 : (dv.take 16).length = 16 * 1 := by simp [hdl]
  have hd3 : Oc (dv.take 16) := fun x hx => hdo x (List.mem_of_mem_take hx)
  repeat' (first
    | ((with_reducible apply wp_region_plain (id := 0)); refine xv (ex_assign (ev_const _ _)) ?_; refine wl_nil ?_)
    | ((with_reducible apply wp_region_plain (id := 1)); refine wl_of rfl (wp_buildSlice (slT rfl) (szT rfl) (zeT rfl) Fills.nil hS rfl (by first | rfl | assumption) fun b5 w hS => wl_put (by simp only [lset] <;> rfl) ?_); refine xv (ex_move (ev_at rfl)) ?_; refine wl_of rfl (wp_append (ev_at rfl) (ev_at rfl) (slT rfl) (szT rfl) (byT rfl) (zeT rfl) hS (by first | exact srcR hS | exact srcI hS (by assumption) (by assumption)) (by omega) (by omega) rfl fun v7 w hS hv7 => wl_put (by simp only [lset] <;> rfl) ?_); refine xv (ex_assign (ev_at rfl)) ?_; refine wl_nil ?_; (try simp only [lset, splice, sub, List.take_succ_cons, List.take_zero, List.drop_succ_cons, List.drop_zero, List.nil_append, List.cons_append, List.length_cons, List.length_nil, Nat.reduceAdd, Nat.zero_add, rep_zero] at hS))
    | ((with_reducible apply wp_region_plain (id := 2)); refine xv (ex_move (ev_at rfl)) ?_; refine xv (ex_len (ev_at rfl) (slT rfl) (by first | assumption | exact IsSl.nil)) ?_; refine xv (ex_cmp (ev_at rfl) (ev_const _ _) (by first | exact lssT (by omega) | exact lssF (by omega) | rfl)) ?_; refine wl_nil ?_)
    | ((with_reducible apply wp_region_plain (id := 3)); refine xv (ex_move (ev_at rfl)) ?_; refine wl_of rfl (wp_buildSlice (slT rfl) (szT rfl) (zeT rfl) (fillsOne1 (ev_const _ _) (by first | rfl | exact IsSl.one (by assumption))) hS rfl (by first | rfl | assumption | (simp only [sub, splice, List.take_succ_cons, List.take_zero, List.drop_succ_cons, List.drop_zero, List.nil_append, List.cons_append, List.length_cons, List.length_nil, Nat.reduceAdd, List.all_cons, List.all_nil, Bool.and_eq_true, Bool.and_true]; ((repeat' apply And.intro) <;> first | rfl | assumption | exact IsSl.one (by assumption)))) fun b12 w hS => wl_put (by simp only [lset] <;> rfl) ?_); refine wl_of rfl (wp_append1 (ev_at rfl) (ev_at rfl) (slT rfl) (szT rfl) (byT rfl) (zeT rfl) hS (by omega) (by omega) rfl fun v13 w hS hv13 => wl_put (by simp only [lset] <;> rfl) ?_); refine xv (ex_assign (ev_at rfl)) ?_; refine wl_nil ?_; (try simp only [lset, splice, sub, List.take_succ_cons, List.take_zero, List.drop_succ_cons, List.drop_zero, List.nil_append, List.cons_append, List.length_cons, List.length_nil, Nat.reduceAdd, Nat.zero_add, rep_zero] at hS))
    | ((with_reducible apply wp_region_plain (id := 4)); refine xv (ex_move (ev_at rfl)) ?_; refine xv (ex_sliceH (ev_at rfl) (ev_const _ _) (slT rfl) (szT rfl) (by first | assumption | exact IsSl.nil) (by omega) (by omega)) ?_; refine xv (ex_assign (ev_at rfl)) ?_; refine wl_nil ?_)
    | ((with_reducible apply wp_region_plain (id := 5)); refine xv (ex_move (ev_at rfl)) ?_; refine wl_of rfl (wp_callL (cbT rfl) (EvL.c (ev_at rfl) EvL.n) ?_); refine (hsm _ _ hr2.le hS).mono ?_; rintro e w ⟨rfl, hS⟩; refine ⟨_, rfl, wl_put (by simp only [lset] <;> rfl) ?_⟩; refine wl_of rfl (wp_alloc hS (zeT rfl) fun b4 w hS => wl_put (by simp only [lset] <;> rfl) ?_); refine wl_of rfl (wp_storeW (vs := dv) (ev_at rfl) (ev_at rfl) hS (szT rfl) hdl rfl hdo fun w hS => wl_put0 ?_); refine wl_nil ?_; (try simp only [lset, splice, sub, List.take_succ_cons, List.take_zero, List.drop_succ_cons, List.drop_zero, List.nil_append, List.cons_append, List.length_cons, List.length_nil, Nat.reduceAdd, Nat.zero_add, rep_zero] at hS))
    | ((with_reducible apply wp_region_plain (id := 6)); refine wl_of rfl (wp_buildSlice (slT rfl) (szT rfl) (zeT rfl) Fills.nil hS rfl (by first | rfl | assumption) fun b18 w hS => wl_put (by simp only [lset] <;> rfl) ?_); refine xv (ex_sliceAH (ev_at rfl) (ev_const _ _) (arT rfl) (szT rfl) (by omega) (by omega)) ?_; refine wl_of rfl (wp_append (ev_at rfl) (ev_at rfl) (slT rfl) (szT rfl) (byT rfl) (zeT rfl) hS (Rds.src (L := Cells b4 108 dv :: Row u 5 1 (n + k) ((bs ++ List.replicate k 0).map byteV) :: L) (Rds.cellsTake 16) hS (IsSl.lit (n := 16) (by omega)) hd2 hd3) (by omega) (by omega) rfl fun v20 w hS hv20 => wl_put (by simp only [lset] <;> rfl) ?_); refine xv (ex_move (ev_at rfl)) ?_; refine wl_of rfl (wp_append (ev_at rfl) (ev_at rfl) (slT rfl) (szT rfl) (byT rfl) (zeT rfl) hS (Rds.src (L := Row u 5 1 (n + k) ((bs ++ List.replicate k 0).map byteV) :: L) hr2 hS hv2 (by simp [h240]) (byteV_Oc _)) (by omega) (by omega) rfl fun v22 w hS hv22 => wl_put (by simp only [lset] <;> rfl) ?_); refine xv (ex_assign (ev_at rfl)) ?_; refine wl_nil ?_; (try simp only [lset, splice, sub, List.take_succ_cons, List.take_zero, List.drop_succ_cons, List.drop_zero, List.nil_append, List.cons_append, List.length_cons, List.length_nil, Nat.reduceAdd, Nat.zero_add, rep_zero] at hS))
    | ((fail_if_success (with_reducible apply wp_region_plain)); (fail_if_success (with_reducible apply wp_region_GS)); go_step))
  refine end1 (by first | exact .inl rfl | exact .inr rfl) rfl (ResL.rt rfl ResL.rn) ?_
  have hS := hS.del1.del1
  rw [htk] at hS
  have e : [] ++ ((SH.sha Z).take 16).map byteV ++ Z.map byteV = (sealB bs).map byteV := by rw [hsl]; simp
  refine ⟨_, rfl, by simpa using hv22, ?_⟩
  rw [← e]
  simpa using hS
end
end Go.Proofs.Try
