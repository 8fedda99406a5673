/- value of the reference leaves the world as it is. -/
import Derived.Test.YtjklnjpmjdbogaaE3
import Derived.Test.YtjklnjpmjdbogaaSLB
namespace Go.Proofs.Try
open Go.RowKit Go.SL Go.SH Go.RC
set_option maxRecDepth 100000
set_option linter.unusedSimpArgs false
set_option linter.unusedVariables false
section
variable {w : World} {I : Gh} {L : List Ch}
set_option maxHeartbeats 4000000 in
theorem valueP_ct (v : Value) (bs : List UInt8) (n : Nat) (hv : IsSl v n) (hl : bs.length = n) (hr : Rds I L v (bs.map byteV)) (hb : n ≤ 4) (hS : Sat w I L) : Calls Try.prog 57 #[v] w fun e w' => e = .returned (.int .i64 (val bs)) ∧ w' = w := by
  go_enter Try.func57, Try.ntmps57
  repeat' (first
    | ((with_reducible apply wp_region_plain (id := 0)); refine xv (ex_assign (ev_const _ _)) ?_; refine wl_nil ?_)
    | ((with_reducible apply wp_region_plain (id := 1)); refine xv (ex_assign (ev_const _ _)) ?_; refine wl_nil ?_)
    | ((with_reducible apply wp_region_plain (id := 2)); refine xv (ex_assign (ev_const _ _)) ?_; refine wl_nil ?_)
    | ((fail_if_success (with_reducible apply wp_region_plain)); (fail_if_success (with_reducible apply wp_region_GS)); go_step))
  refine wp_loopM [false, false, false, true, true, true, true, true, true, true, true, true, true, true, true, true, true, true, true] (fun m f w' => ∃ i : Nat, m = n - i ∧ f 3 = .int .i64 (val (bs.take i)) ∧ f 4 = .int .i64 i ∧ i ≤ n ∧ w' = w) rfl n ⟨0, rfl, rfl, rfl, by omega, rfl⟩ ?_
  rintro m f w' ⟨i, rfl, h3, h4, hi, rfl⟩
  simp only [havoc, Nat.reduceAdd, h3, h4]
  by_cases hlt : i < n
  case neg =>
    rw [List.take_of_length_le (by omega)]
    repeat' (first
      | ((with_reducible apply wp_region_plain (id := 3)); refine xv (ex_move (ev_at rfl)) ?_; refine xv (ex_move (ev_at rfl)) ?_; refine xv (ex_len (ev_at rfl) (slT rfl) (by first | assumption | exact IsSl.nil)) ?_; refine xv (ex_cmp (ev_at rfl) (ev_at rfl) (by first | exact lssT (by omega) | exact lssF (by omega) | rfl)) ?_; refine wl_nil ?_)
      | ((with_reducible apply wp_region_plain (id := 6)); refine xv (ex_move (ev_at rfl)) ?_; refine xv (ex_assign (ev_at rfl)) ?_; refine wl_nil ?_)
      | ((fail_if_success (with_reducible apply wp_region_plain)); (fail_if_success (with_reducible apply wp_region_GS)); go_step))
    refine end1 (by first | exact .inl rfl | exact .inr rfl) rfl (ResL.rt rfl ResL.rn) ?_
    exact ⟨rfl, rfl⟩
  obtain ⟨c, hc⟩ : ∃ c, bs[i]? = some c := ⟨_, List.getElem?_eq_getElem (by omega)⟩
  have hsn : val (bs.take (i + 1)) = val (bs.take i) * 256 + c.toNat := by rw [List.take_add_one, hc]; exact val_snoc _ _
  have h1 := val_valN (bs.take i)
  have h2 := valN_lt (bs.take i)
  have h3' : valN (bs.take i) < 256 ^ 4 := Nat.lt_of_lt_of_le h2 (Nat.pow_le_pow_right (by omega) (by simp; omega))
  rw [show (256 : Nat) ^ 4 = 4294967296 from rfl] at h3'
  have hc8 := c.toNat_lt
  generalize val (bs.take i) = x at h1 hsn
  repeat' (first
    | ((with_reducible apply wp_region_plain (id := 3)); refine xv (ex_move (ev_at rfl)) ?_; refine xv (ex_move (ev_at rfl)) ?_; refine xv (ex_len (ev_at rfl) (slT rfl) (by first | assumption | exact IsSl.nil)) ?_; refine xv (ex_cmp (ev_at rfl) (ev_at rfl) (by first | exact lssT (by omega) | exact lssF (by omega) | rfl)) ?_; refine wl_nil ?_)
    | ((with_reducible apply wp_region_plain (id := 5)); refine xv (ex_move (ev_at rfl)) ?_; refine xv (ex_arith (ev_at rfl) (ev_const _ _) rfl (by first | exact IntWalk.i64_in _ (by omega) | rfl)) ?_; refine xv (ex_move (ev_at rfl)) ?_; refine xv (ex_move (ev_at rfl)) ?_; (first | refine xv (ex_iaN (ev_at rfl) (ev_at rfl) (slT rfl) (szT rfl) (by first | assumption | exact IsSl.nil) (by omega)) ?_ | refine xv (ex_ia (ev_at rfl) (ev_at rfl) (slT rfl) (szT rfl) (by first | assumption | exact IsSl.nil) (by omega) (by omega)) ?_); refine xv (ex_load (ev_at rfl) (ldE1 (u := byteV c) (hr.rd hS) hv (m := i) hlt (kdT rfl) (byteGet hc (by omega)))) ?_; refine xv (ex_convII (s := (c.toNat : Int)) (ev_at rfl) (inT rfl) (kdT rfl) (IntWalk.i64_in _ (by omega))) ?_; refine xv (ex_arith (ev_at rfl) (ev_at rfl) rfl (by first | exact IntWalk.i64_in _ (by omega) | rfl)) ?_; refine xv (ex_assign (ev_at rfl)) ?_; refine wl_nil ?_)
    | ((with_reducible apply wp_region_plain (id := 4)); refine xv (ex_move (ev_at rfl)) ?_; refine xv (ex_arith (ev_at rfl) (ev_const _ _) rfl (by first | exact IntWalk.i64_in _ (by omega) | rfl)) ?_; refine xv (ex_assign (ev_at rfl)) ?_; refine wl_nil ?_)
    | ((fail_if_success (with_reducible apply wp_region_plain)); (fail_if_success (with_reducible apply wp_region_GS)); go_step))
  exact loopEndM rfl (n - (i + 1)) ⟨i + 1, rfl, by rw [hsn]; rfl, rfl, by omega, rfl⟩ (by omega)
end
end Go.Proofs.Try
