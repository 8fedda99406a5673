/- The device: contracts (3): the bytes of a law; loops. -/
import Derived.Test.YthbakafjhgcieaaDC2
namespace Go.Proofs.Try
open Go.RowKit Go.SL Go.DK
set_option maxRecDepth 100000
set_option linter.unusedSimpArgs false
set_option linter.unusedVariables false
section
variable {w : World} {I : Gh} {L : List Ch}
def partB (bs : List UInt8) (i : Nat) : List Value := (bs.take i ++ List.replicate (bs.length - i) (0 : UInt8)).map byteV
theorem partB_len (bs : List UInt8) (i : Nat) (h : i ≤ bs.length) : (partB bs i).length = bs.length := by simp [partB]; omega
set_option maxHeartbeats 1000000 in
theorem bytes_ct (a c : UInt8) (hS : Sat w I L) :
    Calls Try.prog 19 #[byteV a, byteV c] w fun e w' => ∃ v, e = .returned v ∧ Sat w' I (Row v 5 1 256 ((bytesOf a c).map byteV) :: L) := by
  go_enter Try.func19, Try.ntmps19
  repeat' (first
    | ((with_reducible apply wp_region_plain (id := 0)); refine xv (ex_assign (ev_const _ _)) ?_; refine wl_nil ?_)
    | ((with_reducible apply wp_region_plain (id := 1)); refine wl_of rfl (wp_makeSlice (n := 256) (ev_const _ _) (ev_const _ _) (slT rfl) (szT rfl) (byT rfl) (zeT rfl) hS rfl rfl (by omega) (by omega) rfl fun b7 w hS => wl_put (by simp only [lset] <;> rfl) ?_); refine xv (ex_assign (ev_at rfl)) ?_; refine wl_nil ?_; (try simp only [lset, splice, sub, List.take_succ_cons, List.take_zero, List.drop_succ_cons, List.drop_zero, List.nil_append, List.cons_append, List.length_cons, List.length_nil, Nat.reduceAdd, Nat.zero_add, rep_zero] at hS))
    | ((with_reducible apply wp_region_plain (id := 2)); refine xv (ex_assign (ev_const _ _)) ?_; refine wl_nil ?_)
    | ((fail_if_success (with_reducible apply wp_region_plain)); (fail_if_success (with_reducible apply wp_region_GS)); go_step))
  have h0 : SL.rep 256 [Value.int .u8 0] = partB (bytesOf a c) 0 := by rw [rep_byte]; simp [partB, bytesOf_len]
  rw [h0] at hS
  refine wp_loopR [false, false, false, false, false, false, true, false, true, true, true, true, true, true, true, true, true, true, true, true, true, true, true] (fun f w => ∃ i : Nat, f 6 = .int .i64 i ∧ i ≤ 256 ∧ Sat w I (Row (.slice (some ⟨b7, 0, none⟩) 256 256) 5 1 256 (partB (bytesOf a c) i) :: L)) (fun f _ => 256 - ivN (f 6)) rfl ⟨0, rfl, by omega, hS⟩ ?_
  clear hS h0
  rintro f w ⟨i, h6, hi, hS⟩
  simp only [havoc, Nat.reduceAdd, h6]
  have hv := hS.row0.1
  by_cases hlt : i < 256
  · repeat' (first
      | ((with_reducible apply wp_region_plain (id := 3)); refine xv (ex_move (ev_at rfl)) ?_; refine xv (ex_move (ev_at rfl)) ?_; refine xv (ex_len (ev_at rfl) (slT rfl) (by first | assumption | exact IsSl.nil)) ?_; refine xv (ex_cmp (ev_at rfl) (ev_at rfl) (by first | exact lssT (by omega) | exact lssF (by omega) | rfl)) ?_; refine wl_nil ?_)
      | ((with_reducible apply wp_region_plain (id := 5)); refine xv (ex_move (ev_at rfl)) ?_; refine xv (ex_move (ev_at rfl)) ?_; refine xv (ex_move (ev_at rfl)) ?_; refine xv (ex_move (ev_at rfl)) ?_; refine xv (ex_convII (ev_at rfl) (inT rfl) (kdT rfl) (by first | exact IntWalk.u8_in _ (by omega) | rfl)) ?_; refine xv (ex_move (ev_at rfl)) ?_; refine xv (ex_arith (ev_at rfl) (ev_at rfl) rfl (by first | exact IntWalk.u8_in _ (by omega) | rfl)) ?_; refine xv (ex_arith (ev_at rfl) (ev_at rfl) rfl (by first | exact IntWalk.u8_in _ (by omega) | rfl)) ?_; (first | refine xv (ex_iaN (ev_at rfl) (ev_at rfl) (slT rfl) (szT rfl) (by first | assumption | exact IsSl.nil) (by omega)) ?_ | refine xv (ex_ia (ev_at rfl) (ev_at rfl) (slT rfl) (szT rfl) (by first | assumption | exact IsSl.nil) (by omega) (by omega)) ?_); refine wl_of rfl (wp_storeE1 (ev_at rfl) (ev_at rfl) hS (szT rfl) (by rw [partB_len _ _ (by rw [bytesOf_len]; omega), bytesOf_len]; omega) rfl fun w hS => wl_put0 ?_); refine wl_nil ?_; (try simp only [lset, splice, sub, List.take_succ_cons, List.take_zero, List.drop_succ_cons, List.drop_zero, List.nil_append, List.cons_append, List.length_cons, List.length_nil, Nat.reduceAdd, Nat.zero_add, rep_zero] at hS))
      | ((with_reducible apply wp_region_plain (id := 4)); refine xv (ex_move (ev_at rfl)) ?_; refine xv (ex_arith (ev_at rfl) (ev_const _ _) rfl (by first | exact IntWalk.i64_in _ (by omega) | rfl)) ?_; refine xv (ex_assign (ev_at rfl)) ?_; refine wl_nil ?_)
      | ((fail_if_success (with_reducible apply wp_region_plain)); (fail_if_success (with_reducible apply wp_region_GS)); go_step))
    refine loopEnd rfl ⟨i + 1, rfl, by omega, ?_⟩ ?_
    · rw [byte_step a c i hlt, Nat.mul_one] at hS
      have h2 : i < (bytesOf a c).length := by rw [bytesOf_len]; exact hlt
      have := fill_set byteV (bytesOf a c) 0 i h2 (byteV (a + UInt8.ofNat i * c)) (by simp [bytesOf])
      unfold partB at hS ⊢
      rwa [this] at hS
    · simp only [h6, nth, ivN]; omega
  · repeat' (first
      | ((with_reducible apply wp_region_plain (id := 3)); refine xv (ex_move (ev_at rfl)) ?_; refine xv (ex_move (ev_at rfl)) ?_; refine xv (ex_len (ev_at rfl) (slT rfl) (by first | assumption | exact IsSl.nil)) ?_; refine xv (ex_cmp (ev_at rfl) (ev_at rfl) (by first | exact lssT (by omega) | exact lssF (by omega) | rfl)) ?_; refine wl_nil ?_)
      | ((with_reducible apply wp_region_plain (id := 6)); refine xv (ex_move (ev_at rfl)) ?_; refine xv (ex_assign (ev_at rfl)) ?_; refine wl_nil ?_)
      | ((fail_if_success (with_reducible apply wp_region_plain)); (fail_if_success (with_reducible apply wp_region_GS)); go_step))
    refine end1 (by first | exact .inl rfl | exact .inr rfl) rfl (ResL.rt rfl ResL.rn) ?_
    have : i = 256 := by omega
    subst this
    refine ⟨_, rfl, ?_⟩
    have e : partB (bytesOf a c) 256 = (bytesOf a c).map byteV := by
      have := bytesOf_len a c
      simp [partB, this]
      rw [List.take_of_length_le (by rw [List.length_map, this]; exact Nat.le_refl _)]
    rwa [e] at hS
end
end Go.Proofs.Try
