/- RecordLosses. -/
import Derived.Test.YtjklnjpmjdbogaaK3
import Derived.Test.YtjklnjpmjdbogaaF5
namespace Go.Proofs.Try
open Go.RowKit Go.SL Go.SH Go.RC
set_option maxRecDepth 100000
set_option linter.unusedSimpArgs false
set_option linter.unusedVariables false
section
variable {w : World} {I : Gh} {L : List Ch}
theorem sub_get {cs xs : List Value} {k n j : Nat} {u : Value} (h : sub cs k n = xs) (hu : xs[j]? = some u) : cs[k + j]? = some u := by
  rw [← h] at hu
  simp only [sub, List.getElem?_take, List.getElem?_drop] at hu
  split at hu
  · exact hu
  · cases hu
theorem setGet {xs : List Value} {i : Nat} {u : Value} (h : i < xs.length) : (xs.set (i * 1) u)[i * 1]? = some u := by
  rw [Nat.mul_one]; exact List.getElem?_set_self h
theorem tamperG {a : List UInt8} (ha : a.length = 256) (hd : (SH.sha (a.drop 16)).take 16 = a.take 16) (at_ by_ c : UInt8) (hc : a[at_.toNat]? = some c) (hby : by_ ≠ 0) :
    (RC.decode (a.set at_.toNat (c ^^^ by_))).2 = 22 ∨ RC.collide (a.drop 16) ((a.set at_.toNat (c ^^^ by_)).drop 16) := by
  have hat := at_.toNat_lt
  generalize hb : a.set at_.toNat (c ^^^ by_) = b
  have hbl : b.length = 256 := by rw [← hb]; simp [ha]
  by_cases h : (RC.decode b).2 = 22
  · exact .inl h
  · right
    refine tamper_gen hbl hd ?_ ?_ h
    · intro he
      rw [← hb] at he
      have h1 := congrArg (fun l => l[at_.toNat]?) he
      simp only [List.getElem?_set_self (show at_.toNat < a.length from by omega), hc, Option.some.injEq] at h1
      exact xor_ne hby h1.symm
    · rw [← hb]
      rcases Nat.lt_or_ge at_.toNat 16 with h1 | h1
      · right; rw [List.drop_set_of_lt h1]
      · left; rw [List.take_set_of_le h1]
theorem runL_chk (ps : List (List UInt8)) : ∀ (i : Nat), ∀ l ∈ runL 5 7 ps i, (SH.sha (l.drop 16)).take 16 = l.take 16
  | 0, l, h => by simp [runL] at h
  | i + 1, l, h => by
    rw [runL] at h
    rcases List.mem_append.1 h with h | h
    · exact runL_chk ps i l h
    · rw [split] at h
      split at h
      · simp at h
      · split at h
        · simp at h
        · obtain ⟨k, _, rfl⟩ := List.mem_map.1 h
          exact encode_chk _
set_option maxHeartbeats 32000000 in
theorem recordLosses_ct (pv : Value) (ps : List (List UInt8)) (z y : UInt8) (hx : PaysOk I pv ps) (hS : Sat w I []) :
    Calls Try.prog 12 #[pv, byteV z, byteV y] w fun e w' => e = .returned (.bool true) ∧ Sat w' I [] := by
  have hrn := fun (w : World) (L2 : List Ch) hS => run_ct (w := w) (I := I) (L := L2) ⟨5, 7, ps, pv, [], .slice none 0 0, [], .slice none 0 0, 0⟩ ⟨hx, ⟨IsSl.nil, [], (fun w X hS p n c e => by cases e), (fun i x h => by simp at h)⟩, IsSl.nil, (fun w X hS p n c e => by cases e)⟩ hS
  obtain ⟨pvi, cs, hcs, hcel⟩ := hx
  have hb0 : byteV 0 = .int .u8 0 := rfl
  simp only [runCells, hb0] at hrn
  have hzl := z.toNat_lt
  have hyl := y.toNat_lt
  go_enter Try.func12, Try.ntmps12
  repeat' (first
    | ((with_reducible apply wp_region_plain (id := 0)); refine xv (ex_assign (ev_const _ _)) ?_; refine wl_nil ?_)
    | ((with_reducible apply wp_region_plain (id := 1)); refine xv (ex_move (ev_at rfl)) ?_; refine xv (ex_buildS (plT rfl) (zeT rfl) (Fills.cons rfl (ev_const _ _) (by first | exact IsSl.cellsL (by assumption) | exact cellsL1 rfl | rfl) rfl rfl (Fills.cons rfl (ev_const _ _) (by first | exact IsSl.cellsL (by assumption) | exact cellsL1 rfl | rfl) rfl rfl (Fills.cons rfl (ev_at rfl) (by first | exact IsSl.cellsL (by assumption) | exact cellsL1 rfl | rfl) rfl rfl Fills.nil)))) ?_; refine wl_of rfl (wp_alloc hS (zeT rfl) fun b7 w hS => wl_put (by simp only [lset] <;> rfl) ?_); refine wl_of rfl (wp_storeN (ev_at rfl) (ev_at rfl) hS (szT rfl) rfl (by first | rfl | assumption | (simp only [sub, splice, List.take_succ_cons, List.take_zero, List.drop_succ_cons, List.drop_zero, List.nil_append, List.cons_append, List.length_cons, List.length_nil, Nat.reduceAdd, List.all_cons, List.all_nil, Bool.and_eq_true, Bool.and_true]; ((repeat' apply And.intro) <;> first | rfl | assumption | exact IsSl.one (by assumption)))) fun w hS => wl_put0 ?_); refine wl_nil ?_; (try simp only [lset, splice, sub, List.take_succ_cons, List.take_zero, List.drop_succ_cons, List.drop_zero, List.nil_append, List.cons_append, List.length_cons, List.length_nil, Nat.reduceAdd, Nat.zero_add, rep_zero] at hS))
    | ((with_reducible apply wp_region_plain (id := 2)); refine xv (ex_load (ev_at rfl) (ldN hS (kdT rfl) (szT rfl) rfl)) ?_; refine wl_of rfl (wp_callL (cbT rfl) (EvL.c (ev_at rfl) EvL.n) ?_); refine (hrn _ _ hS).mono ?_; rintro e w ⟨J, u, ls, rfl, hJ, hse, hll, hl256, hls, hS⟩; refine ⟨_, rfl, wl_put (by simp only [lset] <;> rfl) ?_⟩; refine xv (ex_assign (ev_at rfl)) ?_; refine wl_nil ?_)
    | ((fail_if_success (with_reducible apply wp_region_plain)); (fail_if_success (with_reducible apply wp_region_GS)); go_step))
  have hls := hls trivial trivial
  obtain ⟨vs, hu, hvs⟩ := id hse
  have hui := hu.is
  obtain ⟨N, hN⟩ : ∃ N, N = ls.length := ⟨_, rfl⟩
  obtain ⟨K, hK⟩ : ∃ K, K = min ps.length 6 := ⟨_, rfl⟩
  rw [← hK] at hls
  by_cases hN0 : N = 0
  case pos =>
    repeat' (first
      | ((with_reducible apply wp_region_plain (id := 3)); refine wl_of rfl (wp_callL (cbT rfl) EvL.n ?_); refine (known_ct hS).mono ?_; rintro e w ⟨rfl, hS⟩; refine ⟨_, rfl, wl_put (by simp only [lset] <;> rfl) ?_⟩; refine xv (ex_not (ev_at rfl)) ?_; refine xv (ex_move (ev_at rfl)) ?_; (first | refine wl_skip rfl rfl (by simp only [lset] <;> rfl) ?_ | (refine xv (ex_move (ev_at rfl)) ?_)); (first | refine wl_skip rfl rfl (by simp only [lset] <;> rfl) ?_ | (refine xv (ex_len (ev_at rfl) (slT rfl) (by first | assumption | exact IsSl.nil)) ?_)); (first | refine wl_skip rfl rfl (by simp only [lset] <;> rfl) ?_ | (refine xv (ex_cmp (ev_at rfl) (ev_const _ _) (by first | exact eqlT (by omega) | exact eqlF (by omega) | rfl)) ?_)); (first | refine xv (ex_pickT (ev_at rfl) (ev_const _ _)) ?_ | refine xv (ex_pickF (ev_at rfl) (ev_at rfl)) ?_ | refine xv (ex_pickOr (ev_at rfl) (ev_const _ _) (ev_at rfl)) ?_); refine wl_nil ?_)
      | ((with_reducible apply wp_region_plain (id := 4)); refine wl_of rfl (wp_callL (cbT rfl) EvL.n ?_); refine (known_ct hS).mono ?_; rintro e w ⟨rfl, hS⟩; refine ⟨_, rfl, wl_put (by simp only [lset] <;> rfl) ?_⟩; refine xv (ex_assign (ev_at rfl)) ?_; refine wl_nil ?_)
      | ((fail_if_success (with_reducible apply wp_region_plain)); (fail_if_success (with_reducible apply wp_region_GS)); go_step))
    refine end1 (by first | exact .inl rfl | exact .inr rfl) rfl (ResL.rt rfl ResL.rn) ?_
    exact ⟨rfl, hS.nil.anti hJ⟩
  have hmod : ((z.toNat % N : Nat) : Int) = (z.toNat : Int) % (N : Int) := Int.natCast_emod _ _
  have hml := Nat.mod_lt z.toNat (show N > 0 by omega)
  obtain ⟨A, hA⟩ : ∃ A : Nat, A = z.toNat % N := ⟨_, rfl⟩
  rw [← hA] at hmod hml
  repeat' (first
    | ((with_reducible apply wp_region_plain (id := 3)); refine wl_of rfl (wp_callL (cbT rfl) EvL.n ?_); refine (known_ct hS).mono ?_; rintro e w ⟨rfl, hS⟩; refine ⟨_, rfl, wl_put (by simp only [lset] <;> rfl) ?_⟩; refine xv (ex_not (ev_at rfl)) ?_; refine xv (ex_move (ev_at rfl)) ?_; (first | refine wl_skip rfl rfl (by simp only [lset] <;> rfl) ?_ | (refine xv (ex_move (ev_at rfl)) ?_)); (first | refine wl_skip rfl rfl (by simp only [lset] <;> rfl) ?_ | (refine xv (ex_len (ev_at rfl) (slT rfl) (by first | assumption | exact IsSl.nil)) ?_)); (first | refine wl_skip rfl rfl (by simp only [lset] <;> rfl) ?_ | (refine xv (ex_cmp (ev_at rfl) (ev_const _ _) (by first | exact eqlT (by omega) | exact eqlF (by omega) | rfl)) ?_)); (first | refine xv (ex_pickT (ev_at rfl) (ev_const _ _)) ?_ | refine xv (ex_pickF (ev_at rfl) (ev_at rfl)) ?_ | refine xv (ex_pickOr (ev_at rfl) (ev_const _ _) (ev_at rfl)) ?_); refine wl_nil ?_)
    | ((with_reducible apply wp_region_plain (id := 5)); refine xv (ex_move (ev_at rfl)) ?_; refine xv (ex_convII (ev_at rfl) (inT rfl) (kdT rfl) (by first | exact IntWalk.i64_in _ (by omega) | rfl)) ?_; refine xv (ex_move (ev_at rfl)) ?_; refine xv (ex_len (ev_at rfl) (slT rfl) (by first | assumption | exact IsSl.nil)) ?_; refine xv (ex_remTo (r := (A : Int)) (ev_at rfl) (ev_at rfl) (by omega) (by omega) (by rw [← hN]; exact hmod.symm)) ?_; refine xv (ex_assign (ev_at rfl)) ?_; refine wl_nil ?_)
    | ((with_reducible apply wp_region_plain (id := 6)); refine xv (ex_assign (ev_const _ _)) ?_; refine xv (ex_assign (ev_const _ _)) ?_; refine wl_nil ?_)
    | ((with_reducible apply wp_region_plain (id := 7)); refine xv (ex_assign (ev_const _ _)) ?_; refine wl_nil ?_)
    | ((fail_if_success (with_reducible apply wp_region_plain)); (fail_if_success (with_reducible apply wp_region_GS)); go_step))
  refine wp_loopM [false, false, false, false, false, false, false, false, false, false, true, true, true, true, false, false, false, false, false, false, false, false, false, false, false, false, false, false, false, false, false, false, false, false, false, false, false, false, false, true, true, true, true, true, true, true, true, true, true, true, true, true, true, true, true, true, true, true, true, true, true, true, true, true, true, true] (fun n f w => ∃ i E0 : Nat, n = 6 - i ∧ f 10 = .int .i64 i ∧ f 11 = .int .i64 E0 ∧ f 12 = .int .i64 i ∧ i ≤ K ∧ E0 = (runL 5 7 ps i).length ∧ E0 ≤ A ∧ Sat w J [Cells b7 75 [.int .i64 5, .int .i64 7, pv, .slice none 0 0, .slice none 0 0, .int .u8 0]]) rfl 6 ⟨0, 0, rfl, rfl, rfl, rfl, by omega, rfl, by omega, hS⟩ ?_
  clear hS
  rintro n f w ⟨W, E0, rfl, h10, h11, h12, hi, hE0, hEA, hS⟩
  simp only [havoc, Nat.reduceAdd, h10, h11, h12]
  by_cases hlt : W < K
  case neg =>
    exfalso
    have : W = K := by omega
    rw [this, ← hls] at hE0
    omega
  have hips : W < ps.length := by omega
  have hg : ps[W]? = some ps[W] := List.getElem?_eq_getElem hips
  obtain ⟨pu, hcell, hpui, hpr⟩ := hcel _ _ hg
  have hpay : (recN ps W).pay = ps[W].take 600 := by simp [recN, hips]
  have hrs := congrArg List.length (runL_succ ps (i := W) (by omega))
  rw [List.length_append, sectorsR_len, hpay] at hrs
  generalize ps[W] = p at hcell hpui hpr hg hrs
  obtain ⟨m, hm1, hm2, hm3, hv2, hr2⟩ := cutq600 rfl hpui hpr
  rw [hm3] at hrs
  have hnd : need m ≤ 3 := by simp [need]; simp at hm3; omega
  by_cases hbrk : E0 + need m ≤ A
  case pos =>
    repeat' (first
      | ((with_reducible apply wp_region_plain (id := 8)); refine xv (ex_move (ev_at rfl)) ?_; refine xv (ex_move (ev_at rfl)) ?_; refine xv (ex_len (ev_at rfl) (slT rfl) (by first | assumption | exact IsSl.nil)) ?_; refine xv (ex_cmp (ev_at rfl) (ev_at rfl) (by first | exact lssT (by omega) | exact lssF (by omega) | rfl)) ?_; refine xv (ex_move (ev_at rfl)) ?_; (first | refine wl_skip rfl rfl (by simp only [lset] <;> rfl) ?_ | (refine xv (ex_move (ev_at rfl)) ?_)); (first | refine wl_skip rfl rfl (by simp only [lset] <;> rfl) ?_ | (refine xv (ex_cmp (ev_at rfl) (ev_const _ _) (by first | exact lssT (by omega) | exact lssF (by omega) | rfl)) ?_)); (first | refine xv (ex_pickT (ev_at rfl) (ev_at rfl)) ?_ | refine xv (ex_pickF (ev_at rfl) (ev_const _ _)) ?_ | refine xv (ex_pickAnd (ev_at rfl) (ev_at rfl) (ev_const _ _)) ?_); refine wl_nil ?_)
      | ((with_reducible apply wp_region_plain (id := 10)); refine xv (ex_move (ev_at rfl)) ?_; refine xv (ex_move (ev_at rfl)) ?_; (first | refine xv (ex_iaN (ev_at rfl) (ev_at rfl) (slT rfl) (szT rfl) (by first | assumption | exact IsSl.nil) (by omega)) ?_ | refine xv (ex_ia (ev_at rfl) (ev_at rfl) (slT rfl) (szT rfl) (by first | assumption | exact IsSl.nil) (by omega) (by omega)) ?_); refine xv (ex_load (ev_at rfl) (ldE1 (u := pu) ((hcs.mono hJ).rd0 hS) pvi (m := W) hips (kdT rfl) (by simpa using hcell))) ?_; refine xv (ex_len (ev_at rfl) (slT rfl) (by first | assumption | exact IsSl.nil)) ?_; refine xv (ex_min2r (r := (m : Int)) (ev_at rfl) (ev_const _ _) hm1) ?_; refine wl_of rfl (wp_callL (cbT rfl) (EvL.c (ev_at rfl) EvL.n) ?_); refine (rneed_ct m (by omega) hS).mono ?_; rintro e w ⟨rfl, hS⟩; refine ⟨_, rfl, wl_put (by simp only [lset] <;> rfl) ?_⟩; refine xv (ex_assign (ev_at rfl)) ?_; refine wl_nil ?_)
      | ((with_reducible apply wp_region_plain (id := 11)); refine xv (ex_move (ev_at rfl)) ?_; refine xv (ex_move (ev_at rfl)) ?_; refine xv (ex_arith (ev_at rfl) (ev_at rfl) rfl (by first | exact IntWalk.i64_in _ (by omega) | rfl)) ?_; refine xv (ex_move (ev_at rfl)) ?_; refine xv (ex_cmp (ev_at rfl) (ev_at rfl) (by first | exact gtrT (by omega) | exact gtrF (by omega) | rfl)) ?_; refine wl_nil ?_)
      | ((with_reducible apply wp_region_plain (id := 12)); refine xv (ex_move (ev_at rfl)) ?_; refine xv (ex_arith (ev_at rfl) (ev_const _ _) rfl (by first | exact IntWalk.i64_in _ (by omega) | rfl)) ?_; refine xv (ex_move (ev_at rfl)) ?_; refine xv (ex_move (ev_at rfl)) ?_; refine xv (ex_arith (ev_at rfl) (ev_at rfl) rfl (by first | exact IntWalk.i64_in _ (by omega) | rfl)) ?_; refine xv (ex_assign (ev_at rfl)) ?_; refine xv (ex_assign (ev_at rfl)) ?_; refine wl_nil ?_)
      | ((with_reducible apply wp_region_plain (id := 9)); refine xv (ex_move (ev_at rfl)) ?_; refine xv (ex_arith (ev_at rfl) (ev_const _ _) rfl (by first | exact IntWalk.i64_in _ (by omega) | rfl)) ?_; refine xv (ex_assign (ev_at rfl)) ?_; refine wl_nil ?_)
      | ((fail_if_success (with_reducible apply wp_region_plain)); (fail_if_success (with_reducible apply wp_region_GS)); go_step))
    exact loopEndM rfl (6 - (W + 1)) ⟨W + 1, E0 + need m, rfl, rfl, rfl, rfl, by omega, by omega, by omega, hS⟩ (by omega)
  have h1 : (runL 5 7 ps W).length ≤ A := by omega
  have h2 : A < (runL 5 7 ps (W + 1)).length := by omega
  subst hE0
  by_cases hy0 : y.toNat = 0
  case pos =>
    repeat' (first
      | ((with_reducible apply wp_region_plain (id := 8)); refine xv (ex_move (ev_at rfl)) ?_; refine xv (ex_move (ev_at rfl)) ?_; refine xv (ex_len (ev_at rfl) (slT rfl) (by first | assumption | exact IsSl.nil)) ?_; refine xv (ex_cmp (ev_at rfl) (ev_at rfl) (by first | exact lssT (by omega) | exact lssF (by omega) | rfl)) ?_; refine xv (ex_move (ev_at rfl)) ?_; (first | refine wl_skip rfl rfl (by simp only [lset] <;> rfl) ?_ | (refine xv (ex_move (ev_at rfl)) ?_)); (first | refine wl_skip rfl rfl (by simp only [lset] <;> rfl) ?_ | (refine xv (ex_cmp (ev_at rfl) (ev_const _ _) (by first | exact lssT (by omega) | exact lssF (by omega) | rfl)) ?_)); (first | refine xv (ex_pickT (ev_at rfl) (ev_at rfl)) ?_ | refine xv (ex_pickF (ev_at rfl) (ev_const _ _)) ?_ | refine xv (ex_pickAnd (ev_at rfl) (ev_at rfl) (ev_const _ _)) ?_); refine wl_nil ?_)
      | ((with_reducible apply wp_region_plain (id := 10)); refine xv (ex_move (ev_at rfl)) ?_; refine xv (ex_move (ev_at rfl)) ?_; (first | refine xv (ex_iaN (ev_at rfl) (ev_at rfl) (slT rfl) (szT rfl) (by first | assumption | exact IsSl.nil) (by omega)) ?_ | refine xv (ex_ia (ev_at rfl) (ev_at rfl) (slT rfl) (szT rfl) (by first | assumption | exact IsSl.nil) (by omega) (by omega)) ?_); refine xv (ex_load (ev_at rfl) (ldE1 (u := pu) ((hcs.mono hJ).rd0 hS) pvi (m := W) hips (kdT rfl) (by simpa using hcell))) ?_; refine xv (ex_len (ev_at rfl) (slT rfl) (by first | assumption | exact IsSl.nil)) ?_; refine xv (ex_min2r (r := (m : Int)) (ev_at rfl) (ev_const _ _) hm1) ?_; refine wl_of rfl (wp_callL (cbT rfl) (EvL.c (ev_at rfl) EvL.n) ?_); refine (rneed_ct m (by omega) hS).mono ?_; rintro e w ⟨rfl, hS⟩; refine ⟨_, rfl, wl_put (by simp only [lset] <;> rfl) ?_⟩; refine xv (ex_assign (ev_at rfl)) ?_; refine wl_nil ?_)
      | ((with_reducible apply wp_region_plain (id := 11)); refine xv (ex_move (ev_at rfl)) ?_; refine xv (ex_move (ev_at rfl)) ?_; refine xv (ex_arith (ev_at rfl) (ev_at rfl) rfl (by first | exact IntWalk.i64_in _ (by omega) | rfl)) ?_; refine xv (ex_move (ev_at rfl)) ?_; refine xv (ex_cmp (ev_at rfl) (ev_at rfl) (by first | exact gtrT (by omega) | exact gtrF (by omega) | rfl)) ?_; refine wl_nil ?_)
      | ((with_reducible apply wp_region_plain (id := 13)); refine xv (ex_move (ev_at rfl)) ?_; refine xv (ex_move (ev_at rfl)) ?_; refine xv (ex_sliceH (ev_at rfl) (ev_at rfl) (slT rfl) (szT rfl) (by first | assumption | exact IsSl.nil) (by omega) (by omega)) ?_; refine xv (ex_assign (ev_at rfl)) ?_; refine wl_nil ?_)
      | ((with_reducible apply wp_region_plain (id := 14)); refine xv (ex_move (ev_at rfl)) ?_; refine xv (ex_cmp (ev_at rfl) (ev_const _ _) (by first | exact neqT (by omega) | exact neqF (by omega) | rfl)) ?_; refine wl_nil ?_)
      | ((fail_if_success (with_reducible apply wp_region_plain)); (fail_if_success (with_reducible apply wp_region_GS)); go_step))
    have hse2 := SecI.take hse (c := A) (by omega)
    have hcl : (ls.take A).take A = (runL 5 7 ps K).take A := by rw [List.take_take, Nat.min_self, hls]
    have hcll : (ls.take A).length = A := by simp; omega
    have hbad : (ls.take A).length = A ∨ ∃ b, (ls.take A)[A]? = some b ∧ (RC.decode b).2 = 22 := .inl hcll
    have hcl256 : ∀ l ∈ ls.take A, l.length = 256 := fun l hl => hl256 l (List.mem_of_mem_take hl)
    obtain ⟨cl, hclE⟩ : ∃ cl, cl = ls.take A := ⟨_, rfl⟩
    rw [← hclE] at hse2 hcl hcll hbad hcl256
    have hJ2 : J.le J := Gh.le.refl J
    have hcutI : IsSl (slv u 0 A 1) A := by have := hui.slv (l := 0) (h := A) (sz := 1) (by omega) (by omega); rwa [Nat.sub_zero] at this
    obtain ⟨eS, hscan, heS⟩ := losses (ps := ps) (c := cl) (W := W) (at_ := A) (K := K) (by omega) (by omega) h1 h2 hcl hbad
    have hsc := fun (w : World) (L2 : List Ch) hS => scan_ct (w := w) (I := J) (L := L2) (slv u 0 A 1) cl 5 7 hse2 (fun l hl => by have := hcl256 l hl; omega) (by omega) hS
    rw [hscan] at hsc
    simp only at hsc
    have hrsl : ((List.range W).map (recN ps)).length = W := by simp
    have hbranch : (eS = 0 ∧ cl.length = (runL 5 7 ps W).length) ∨ (eS ≠ 0 ∧ cl.length ≠ (runL 5 7 ps W).length) := by
      by_cases h : eS = 0
      · exact .inl ⟨h, heS.1 h⟩
      · exact .inr ⟨h, fun h' => h (heS.2 h')⟩
    have hrg : ∀ i, i < W → ((List.range W).map (recN ps))[i]? = some (recN ps i) := fun i hi => by simp [hi]
    generalize (List.range W).map (recN ps) = rs at hsc hrsl hrg
    generalize (runL 5 7 ps W).length = E0 at hsc hbranch h1
    clear hscan heS hbad hcl h2
    have hci := hcutI
    rcases hbranch with ⟨hb1, hb2⟩ | ⟨hb1, hb2⟩
    all_goals
      repeat' (first
        | ((with_reducible apply wp_region_plain (id := 24)); refine xv (ex_move (ev_at rfl)) ?_; refine wl_of rfl (wp_callL (cbT rfl) (EvL.c (ev_const _ _) (EvL.c (ev_const _ _) (EvL.c (ev_at rfl) EvL.n))) ?_); refine (hsc _ _ hS).mono ?_; rintro e w ⟨J3, u1, rfl, hJ3, ⟨cs3, hu1, hcs3⟩, hS⟩; have hu1i := hu1.is; refine ⟨_, rfl, wl_put (by simp only [lset] <;> rfl) ?_⟩; refine xv (ex_move (ev_at rfl)) ?_; refine xv (ex_extract (ev_at rfl) rfl) ?_; refine xv (ex_extract (ev_at rfl) rfl) ?_; refine xv (ex_extract (ev_at rfl) rfl) ?_; refine xv (ex_assign (ev_at rfl)) ?_; refine xv (ex_assign (ev_at rfl)) ?_; refine xv (ex_assign (ev_at rfl)) ?_; refine wl_nil ?_)
        | ((with_reducible apply wp_region_plain (id := 25)); refine xv (ex_move (ev_at rfl)) ?_; refine xv (ex_len (ev_at rfl) (slT rfl) (by first | assumption | exact IsSl.nil)) ?_; refine xv (ex_move (ev_at rfl)) ?_; refine xv (ex_cmp (ev_at rfl) (ev_at rfl) (by first | exact neqT (by omega) | exact neqF (by omega) | rfl)) ?_; refine xv (ex_move (ev_at rfl)) ?_; (first | refine wl_skip rfl rfl (by simp only [lset] <;> rfl) ?_ | (refine xv (ex_move (ev_at rfl)) ?_)); (first | refine wl_skip rfl rfl (by simp only [lset] <;> rfl) ?_ | (refine xv (ex_move (ev_at rfl)) ?_)); (first | refine wl_skip rfl rfl (by simp only [lset] <;> rfl) ?_ | (refine xv (ex_cmp (ev_at rfl) (ev_at rfl) (by first | exact neqT (by omega) | exact neqF (by omega) | rfl)) ?_)); (first | refine xv (ex_pickT (ev_at rfl) (ev_const _ _)) ?_ | refine xv (ex_pickF (ev_at rfl) (ev_at rfl)) ?_ | refine xv (ex_pickOr (ev_at rfl) (ev_const _ _) (ev_at rfl)) ?_); refine xv (ex_move (ev_at rfl)) ?_; (first | refine wl_skip rfl rfl (by simp only [lset] <;> rfl) ?_ | (refine xv (ex_move (ev_at rfl)) ?_)); (first | refine wl_skip rfl rfl (by simp only [lset] <;> rfl) ?_ | (refine xv (ex_cmp (ev_at rfl) (ev_const _ _) (by first | exact eqlT (by omega) | exact eqlF (by omega) | rfl)) ?_)); (first | refine wl_skip rfl rfl (by simp only [lset] <;> rfl) ?_ | (refine xv (ex_move (ev_at rfl)) ?_)); (first | refine wl_skip rfl rfl (by simp only [lset] <;> rfl) ?_ | (refine xv (ex_len (ev_at rfl) (slT rfl) (by first | assumption | exact IsSl.nil)) ?_)); (first | refine wl_skip rfl rfl (by simp only [lset] <;> rfl) ?_ | (refine xv (ex_move (ev_at rfl)) ?_)); (first | refine wl_skip rfl rfl (by simp only [lset] <;> rfl) ?_ | (refine xv (ex_cmp (ev_at rfl) (ev_at rfl) (by first | exact eqlT (by omega) | exact eqlF (by omega) | rfl)) ?_)); (first | refine wl_skip rfl rfl (by simp only [lset] <;> rfl) ?_ | (refine xv (ex_neqBool (ev_at rfl) (ev_at rfl) (unT rfl)) ?_)); (first | refine xv (ex_pickT (ev_at rfl) (ev_const _ _)) ?_ | refine xv (ex_pickF (ev_at rfl) (ev_at rfl)) ?_ | refine xv (ex_pickOr (ev_at rfl) (ev_const _ _) (ev_at rfl)) ?_); refine wl_nil ?_)
        | ((with_reducible apply wp_region_plain (id := 27)); refine xv (ex_assign (ev_const _ _)) ?_; refine wl_nil ?_)
        | ((fail_if_success (with_reducible apply wp_region_plain)); (fail_if_success (with_reducible apply wp_region_GS)); go_step))
      refine wp_loopM [false, false, false, false, false, false, true, false, false, false, false, false, false, false, false, false, false, false, false, false, false, true, false, false, false, false, false, false, false, false, false, false, false, false, false, false, false, false, false, false, false, false, false, false, false, false, false, false, false, false, false, false, false, false, false, false, false, false, false, false, false, false, false, false, false, false, false, false, false, false, false, false, false, false, false, false, false, false, false, false, false, false, false, false, false, false, false, false, false, false, false, false, false, false, false, false, false, false, false, false, false, false, false, false, false, false, false, false, false, false, false, false, false, false, false, false, false, false, false, false, false, false, false, false, false, false, false, false, false, false, false, false, false, false, false, false, false, false, false, false, false, false, false, false, false, true, true, true, true, true, true, true, true, true, true, true, true, true, true, true, true, true, true, true, true, true, true, true, true, true, true, true, true, true, true, true, true, true, true] (fun n f w => ∃ i : Nat, n = W - i ∧ f 21 = .int .i64 i ∧ i ≤ W ∧ Sat w J3 ([Cells b7 75 [.int .i64 5, .int .i64 7, pv, .slice none 0 0, .slice none 0 0, .int .u8 0]])) rfl W ⟨0, rfl, rfl, by omega, hS⟩ ?_
      clear hS
      rintro n f w ⟨i, rfl, h21, hi, hS⟩
      simp only [havoc, Nat.reduceAdd, h21]
      by_cases hlt : i < W
      case neg =>
        repeat' (first
          | ((with_reducible apply wp_region_plain (id := 28)); refine xv (ex_move (ev_at rfl)) ?_; refine xv (ex_move (ev_at rfl)) ?_; refine xv (ex_cmp (ev_at rfl) (ev_at rfl) (by first | exact lssT (by omega) | exact lssF (by omega) | rfl)) ?_; refine wl_nil ?_)
          | ((with_reducible apply wp_region_plain (id := 32)); refine xv (ex_assign (ev_const _ _)) ?_; refine wl_nil ?_)
          | ((fail_if_success (with_reducible apply wp_region_plain)); (fail_if_success (with_reducible apply wp_region_GS)); go_step))
        refine end1 (by first | exact .inl rfl | exact .inr rfl) rfl (ResL.rt rfl ResL.rn) ?_
        exact ⟨rfl, hS.nil.anti (hJ.trans (hJ2.trans hJ3))⟩
      obtain ⟨pv, hs1, hp1⟩ := hcs3.get i _ (hrg i hlt)
      have hips : i < ps.length := by omega
      have hg : ps[i]? = some ps[i] := List.getElem?_eq_getElem hips
      obtain ⟨pu, hcell, hpui, hpr⟩ := hcel _ _ hg
      have hpay : (recN ps i).pay = ps[i].take 600 := by simp [recN, hips]
      have hnum : (recN ps i).num = 7 + (i : Int) := rfl
      rw [hpay] at hp1
      rw [hnum] at hs1
      generalize ps[i] = p at hcell hpui hpr hg hp1
      obtain ⟨m, hm1, hm2, hm3, hv2, hr2⟩ := cutq600 rfl hpui hpr
      have hu1n : IsSl u1 W := by rw [← hrsl]; exact hu1i
      repeat' (first
        | ((with_reducible apply wp_region_plain (id := 28)); refine xv (ex_move (ev_at rfl)) ?_; refine xv (ex_move (ev_at rfl)) ?_; refine xv (ex_cmp (ev_at rfl) (ev_at rfl) (by first | exact lssT (by omega) | exact lssF (by omega) | rfl)) ?_; refine wl_nil ?_)
        | ((with_reducible apply wp_region_GS (id := 30) 29 (fun j => [0, 1, 2, 3, 4, 5, 6, 7, 8, 9, 10, 11, 12, 13, 14, 15, 16, 17, 18, 19, 20, 21, 22, 23, 24, 25, 26, 27, 28].contains j) mixed); rfl; exact hS; (clear hS; intro w hS); refine xp 0 rfl rfl (fun w => ex_move (ev_at rfl)) ?_; refine xp 1 rfl rfl (fun w => ex_move (ev_at rfl)) ?_; (first | refine xp 2 rfl rfl (fun w => ex_iaN (ev_at rfl) (ev_at rfl) (slT rfl) (szT rfl) (by first | assumption | exact IsSl.nil) (by omega)) ?_ | refine xp 2 rfl rfl (fun w => ex_ia (ev_at rfl) (ev_at rfl) (slT rfl) (szT rfl) (by first | assumption | exact IsSl.nil) (by omega) (by omega)) ?_); (first | refine xp 3 rfl rfl (fun w => ex_fa (ev_at rfl) (flT rfl)) ?_ | refine xp 3 rfl rfl (fun w => ex_faE (ev_at rfl) (flT rfl) (by assumption) (by assumption)) ?_); refine xr 4 hS rfl rfl (fun w X hS => ex_load (ev_at rfl) (ldE1 (u := .int .i64 (7 + (i : Int))) (hS.rdSI hu1) hu1n (m := i) hlt (kdT rfl) (sub_get hs1 (j := 2) rfl))) ?_; refine xp 5 rfl rfl (fun w => ex_move (ev_at rfl)) ?_; refine xp 6 rfl rfl (fun w => ex_arith (ev_const _ _) (ev_at rfl) rfl (by first | exact IntWalk.i64_in _ (by omega) | rfl)) ?_; refine xp 7 rfl rfl (fun w => ex_cmp (ev_at rfl) (ev_at rfl) (by first | exact neqT (by omega) | exact neqF (by omega) | rfl)) ?_; refine xp 8 rfl rfl (fun w => ex_move (ev_at rfl)) ?_; (first | refine wg_skip 9 (by decide +kernel) rfl rfl (fun _ _ _ h => h) rfl (by simp only [lset] <;> rfl) ?_ | (refine xp 9 rfl rfl (fun w => ex_move (ev_at rfl)) ?_)); (first | refine wg_skip 10 (by decide +kernel) rfl rfl (fun _ _ _ h => h) rfl (by simp only [lset] <;> rfl) ?_ | (refine xp 10 rfl rfl (fun w => ex_move (ev_at rfl)) ?_)); (first | refine wg_skip 11 (by decide +kernel) rfl rfl (fun _ _ _ h => h) rfl (by simp only [lset] <;> rfl) ?_ | ((first | refine xp 11 rfl rfl (fun w => ex_iaN (ev_at rfl) (ev_at rfl) (slT rfl) (szT rfl) (by first | assumption | exact IsSl.nil) (by omega)) ?_ | refine xp 11 rfl rfl (fun w => ex_ia (ev_at rfl) (ev_at rfl) (slT rfl) (szT rfl) (by first | assumption | exact IsSl.nil) (by omega) (by omega)) ?_))); (first | refine wg_skip 12 (by decide +kernel) rfl rfl (fun _ _ _ h => h) rfl (by simp only [lset] <;> rfl) ?_ | ((first | refine xp 12 rfl rfl (fun w => ex_fa (ev_at rfl) (flT rfl)) ?_ | refine xp 12 rfl rfl (fun w => ex_faE (ev_at rfl) (flT rfl) (by assumption) (by assumption)) ?_))); (first | refine wg_skip 13 (by decide +kernel) rfl rfl (fun _ _ _ h => h) rfl (by simp only [lset] <;> rfl) ?_ | (refine xr 13 hS rfl rfl (fun w X hS => ex_load (ev_at rfl) (ldE1 (u := pv) (hS.rdSI hu1) hu1n (m := i) hlt (kdT rfl) (sub_get hs1 (j := 3) rfl))) ?_)); (first | refine wg_skip 14 (by decide +kernel) rfl rfl (fun _ _ _ h => h) rfl (by simp only [lset] <;> rfl) ?_ | (refine xr 14 hS rfl rfl (fun w X hS => ex_bytesStr (bs := p.take 600) (ev_at rfl) (slT rfl) (inT rfl) (unT rfl) (hS.rdSI hp1) hp1.is) ?_)); (first | refine wg_skip 15 (by decide +kernel) rfl rfl (fun _ _ _ h => h) rfl (by simp only [lset] <;> rfl) ?_ | (refine xp 15 rfl rfl (fun w => ex_move (ev_at rfl)) ?_)); (first | refine wg_skip 16 (by decide +kernel) rfl rfl (fun _ _ _ h => h) rfl (by simp only [lset] <;> rfl) ?_ | (refine xp 16 rfl rfl (fun w => ex_move (ev_at rfl)) ?_)); (first | refine wg_skip 17 (by decide +kernel) rfl rfl (fun _ _ _ h => h) rfl (by simp only [lset] <;> rfl) ?_ | ((first | refine xp 17 rfl rfl (fun w => ex_iaN (ev_at rfl) (ev_at rfl) (slT rfl) (szT rfl) (by first | assumption | exact IsSl.nil) (by omega)) ?_ | refine xp 17 rfl rfl (fun w => ex_ia (ev_at rfl) (ev_at rfl) (slT rfl) (szT rfl) (by first | assumption | exact IsSl.nil) (by omega) (by omega)) ?_))); (first | refine wg_skip 18 (by decide +kernel) rfl rfl (fun _ _ _ h => h) rfl (by simp only [lset] <;> rfl) ?_ | (refine xr 18 hS rfl rfl (fun w X hS => ex_load (ev_at rfl) (ldE1 (u := pu) ((hcs.mono (hJ.trans (hJ2.trans hJ3))).rd0 hS) pvi (m := i) hips (kdT rfl) (by simpa using hcell))) ?_)); (first | refine wg_skip 19 (by decide +kernel) rfl rfl (fun _ _ _ h => h) rfl (by simp only [lset] <;> rfl) ?_ | (refine xp 19 rfl rfl (fun w => ex_move (ev_at rfl)) ?_)); (first | refine wg_skip 20 (by decide +kernel) rfl rfl (fun _ _ _ h => h) rfl (by simp only [lset] <;> rfl) ?_ | (refine xp 20 rfl rfl (fun w => ex_move (ev_at rfl)) ?_)); (first | refine wg_skip 21 (by decide +kernel) rfl rfl (fun _ _ _ h => h) rfl (by simp only [lset] <;> rfl) ?_ | ((first | refine xp 21 rfl rfl (fun w => ex_iaN (ev_at rfl) (ev_at rfl) (slT rfl) (szT rfl) (by first | assumption | exact IsSl.nil) (by omega)) ?_ | refine xp 21 rfl rfl (fun w => ex_ia (ev_at rfl) (ev_at rfl) (slT rfl) (szT rfl) (by first | assumption | exact IsSl.nil) (by omega) (by omega)) ?_))); (first | refine wg_skip 22 (by decide +kernel) rfl rfl (fun _ _ _ h => h) rfl (by simp only [lset] <;> rfl) ?_ | (refine xr 22 hS rfl rfl (fun w X hS => ex_load (ev_at rfl) (ldE1 (u := pu) ((hcs.mono (hJ.trans (hJ2.trans hJ3))).rd0 hS) pvi (m := i) hips (kdT rfl) (by simpa using hcell))) ?_)); (first | refine wg_skip 23 (by decide +kernel) rfl rfl (fun _ _ _ h => h) rfl (by simp only [lset] <;> rfl) ?_ | (refine xp 23 rfl rfl (fun w => ex_len (ev_at rfl) (slT rfl) (by first | assumption | exact IsSl.nil)) ?_)); (first | refine wg_skip 24 (by decide +kernel) rfl rfl (fun _ _ _ h => h) rfl (by simp only [lset] <;> rfl) ?_ | (refine xp 24 rfl rfl (fun w => ex_min2r (r := (m : Int)) (ev_at rfl) (ev_const _ _) hm1) ?_)); (first | refine wg_skip 25 (by decide +kernel) rfl rfl (fun _ _ _ h => h) rfl (by simp only [lset] <;> rfl) ?_ | (refine xp 25 rfl rfl (fun w => ex_sliceH (ev_at rfl) (ev_at rfl) (slT rfl) (szT rfl) (by first | assumption | exact IsSl.nil) (by omega) (by omega)) ?_)); (first | refine wg_skip 26 (by decide +kernel) rfl rfl (fun _ _ _ h => h) rfl (by simp only [lset] <;> rfl) ?_ | (refine xr 26 hS rfl rfl (fun w X hS => ex_bytesStr (bs := p.take 600) (ev_at rfl) (slT rfl) (inT rfl) (unT rfl) ((hr2.mono (hJ.trans (hJ2.trans hJ3))).rd0 hS) (by rw [hm3]; exact hv2)) ?_)); (first | refine wg_skip 27 (by decide +kernel) rfl rfl (fun _ _ _ h => h) rfl (by simp only [lset] <;> rfl) ?_ | (refine xp 27 rfl rfl (fun w => ex_neqStrR (ev_at rfl) (ev_at rfl)) ?_)); (first | refine xp 28 rfl rfl (fun w => ex_pickT (ev_at rfl) (ev_const _ _)) ?_ | refine xp 28 rfl rfl (fun w => ex_pickF (ev_at rfl) (ev_at rfl)) ?_ | refine xp 28 rfl rfl (fun w => ex_pickOr (ev_at rfl) (ev_const _ _) (ev_at rfl)) ?_); refine wg_end (by decide +kernel) ?_)
        | ((with_reducible apply wp_region_plain (id := 29)); refine xv (ex_move (ev_at rfl)) ?_; refine xv (ex_arith (ev_at rfl) (ev_const _ _) rfl (by first | exact IntWalk.i64_in _ (by omega) | rfl)) ?_; refine xv (ex_assign (ev_at rfl)) ?_; refine wl_nil ?_)
        | ((fail_if_success (with_reducible apply wp_region_plain)); (fail_if_success (with_reducible apply wp_region_GS)); go_step))
      exact loopEndM rfl (W - (i + 1)) ⟨i + 1, rfl, rfl, by omega, hS⟩ (by omega)
  have hy : y ≠ 0 := fun h => hy0 (by rw [h]; rfl)
  repeat' (first
    | ((with_reducible apply wp_region_plain (id := 8)); refine xv (ex_move (ev_at rfl)) ?_; refine xv (ex_move (ev_at rfl)) ?_; refine xv (ex_len (ev_at rfl) (slT rfl) (by first | assumption | exact IsSl.nil)) ?_; refine xv (ex_cmp (ev_at rfl) (ev_at rfl) (by first | exact lssT (by omega) | exact lssF (by omega) | rfl)) ?_; refine xv (ex_move (ev_at rfl)) ?_; (first | refine wl_skip rfl rfl (by simp only [lset] <;> rfl) ?_ | (refine xv (ex_move (ev_at rfl)) ?_)); (first | refine wl_skip rfl rfl (by simp only [lset] <;> rfl) ?_ | (refine xv (ex_cmp (ev_at rfl) (ev_const _ _) (by first | exact lssT (by omega) | exact lssF (by omega) | rfl)) ?_)); (first | refine xv (ex_pickT (ev_at rfl) (ev_at rfl)) ?_ | refine xv (ex_pickF (ev_at rfl) (ev_const _ _)) ?_ | refine xv (ex_pickAnd (ev_at rfl) (ev_at rfl) (ev_const _ _)) ?_); refine wl_nil ?_)
    | ((with_reducible apply wp_region_plain (id := 10)); refine xv (ex_move (ev_at rfl)) ?_; refine xv (ex_move (ev_at rfl)) ?_; (first | refine xv (ex_iaN (ev_at rfl) (ev_at rfl) (slT rfl) (szT rfl) (by first | assumption | exact IsSl.nil) (by omega)) ?_ | refine xv (ex_ia (ev_at rfl) (ev_at rfl) (slT rfl) (szT rfl) (by first | assumption | exact IsSl.nil) (by omega) (by omega)) ?_); refine xv (ex_load (ev_at rfl) (ldE1 (u := pu) ((hcs.mono hJ).rd0 hS) pvi (m := W) hips (kdT rfl) (by simpa using hcell))) ?_; refine xv (ex_len (ev_at rfl) (slT rfl) (by first | assumption | exact IsSl.nil)) ?_; refine xv (ex_min2r (r := (m : Int)) (ev_at rfl) (ev_const _ _) hm1) ?_; refine wl_of rfl (wp_callL (cbT rfl) (EvL.c (ev_at rfl) EvL.n) ?_); refine (rneed_ct m (by omega) hS).mono ?_; rintro e w ⟨rfl, hS⟩; refine ⟨_, rfl, wl_put (by simp only [lset] <;> rfl) ?_⟩; refine xv (ex_assign (ev_at rfl)) ?_; refine wl_nil ?_)
    | ((with_reducible apply wp_region_plain (id := 11)); refine xv (ex_move (ev_at rfl)) ?_; refine xv (ex_move (ev_at rfl)) ?_; refine xv (ex_arith (ev_at rfl) (ev_at rfl) rfl (by first | exact IntWalk.i64_in _ (by omega) | rfl)) ?_; refine xv (ex_move (ev_at rfl)) ?_; refine xv (ex_cmp (ev_at rfl) (ev_at rfl) (by first | exact gtrT (by omega) | exact gtrF (by omega) | rfl)) ?_; refine wl_nil ?_)
    | ((with_reducible apply wp_region_plain (id := 13)); refine xv (ex_move (ev_at rfl)) ?_; refine xv (ex_move (ev_at rfl)) ?_; refine xv (ex_sliceH (ev_at rfl) (ev_at rfl) (slT rfl) (szT rfl) (by first | assumption | exact IsSl.nil) (by omega) (by omega)) ?_; refine xv (ex_assign (ev_at rfl)) ?_; refine wl_nil ?_)
    | ((with_reducible apply wp_region_plain (id := 14)); refine xv (ex_move (ev_at rfl)) ?_; refine xv (ex_cmp (ev_at rfl) (ev_const _ _) (by first | exact neqT (by omega) | exact neqF (by omega) | rfl)) ?_; refine wl_nil ?_)
    | ((with_reducible apply wp_region_plain (id := 15)); refine wl_of rfl (wp_buildSlice (slT rfl) (szT rfl) (zeT rfl) Fills.nil hS rfl (by first | rfl | assumption) fun b71 w hS => wl_put (by simp only [lset] <;> rfl) ?_); refine xv (ex_move (ev_at rfl)) ?_; refine wl_of rfl (wp_append (ev_at rfl) (ev_at rfl) (slT rfl) (szT rfl) (byT rfl) (zeT rfl) hS (srcI hS hu (by rw [hvs.1, Nat.mul_one])) (by omega) (by omega) rfl fun v73 w hS hv73 => wl_put (by simp only [lset] <;> rfl) ?_); refine xv (ex_assign (ev_at rfl)) ?_; refine wl_nil ?_; (try simp only [lset, splice, sub, List.take_succ_cons, List.take_zero, List.drop_succ_cons, List.drop_zero, List.nil_append, List.cons_append, List.length_cons, List.length_nil, Nat.reduceAdd, Nat.zero_add, rep_zero] at hS))
    | ((with_reducible apply wp_region_plain (id := 16)); refine xv (ex_move (ev_at rfl)) ?_; refine xv (ex_assign (ev_at rfl)) ?_; refine wl_nil ?_)
    | ((fail_if_success (with_reducible apply wp_region_plain)); (fail_if_success (with_reducible apply wp_region_GS)); go_step))
  rw [← hN] at hS
  have hv73 : IsSl v73 N := by simpa [hN] using hv73
  refine wp_loopM [false, false, false, false, false, false, true, false, false, false, false, false, false, false, false, true, true, true, false, false, false, false, false, false, false, false, false, false, false, false, false, false, false, false, false, false, false, false, false, false, false, false, false, false, false, false, false, false, false, false, false, false, false, false, false, false, false, false, false, false, false, false, false, false, false, false, false, false, false, false, false, false, false, false, false, true, true, true, true, true, true, true, true, true, true, true, true, true, true, true, true, true, true, true, true, true, true, true, true, true, true, true, true, true, true, true, true, true, true, true, true, true, true, true, true, true, true, true, true, true, true] (fun n f w => ∃ (i : Nat) (J2 : Gh) (vs2 : List Value) (cl : List (List UInt8)), n = N - i ∧ f 15 = .int .i64 i ∧ A ≤ i ∧ i ≤ N ∧ cl.length = N ∧ J.le J2 ∧ BytesL J2 vs2 cl ∧ (∀ l ∈ cl, l.length = 256) ∧ cl.take A = ls.take A ∧ (A < i → ∃ b, cl[A]? = some b ∧ (RC.decode b).2 = 22) ∧ Sat w J2 (Row v73 22 1 N vs2 :: [Cells b7 75 [.int .i64 5, .int .i64 7, pv, .slice none 0 0, .slice none 0 0, .int .u8 0]])) rfl (N - A) ⟨A, J, vs, ls, rfl, rfl, by omega, by omega, by omega, Gh.le.refl J, hvs, hl256, rfl, fun h => by omega, hS⟩ ?_
  clear hS
  rintro n f w ⟨i, J2, vs2, cl, rfl, h15, hAi, hiN, hcll, hJ2, hvs2, hcl256, hclt, hbad2, hS⟩
  simp only [havoc, Nat.reduceAdd, h15]
  by_cases hiN2 : i < N
  case pos =>
    have hgl : ls[i]? = some ls[i] := List.getElem?_eq_getElem (by omega)
    obtain ⟨ub, hub⟩ : ∃ ub, vs[i]? = some ub := ⟨_, List.getElem?_eq_getElem (by rw [hvs.1]; omega)⟩
    have hubS := (hvs.2 i ub _ hub hgl).mono hJ2
    have hb256 := hl256 _ (List.mem_of_getElem? hgl)
    have hbchk := runL_chk ps K _ (by rw [← hls]; exact List.mem_of_getElem? hgl)
    generalize ls[i] = bb at hgl hubS hb256 hbchk
    rw [hb256] at hubS
    have hubi := hubS.is
    obtain ⟨c, hc⟩ : ∃ c, bb[z.toNat]? = some c := ⟨_, List.getElem?_eq_getElem (by omega)⟩
    have htm := tamperG hb256 hbchk z y c hc hy
    have hB : ∀ k, k = z.toNat → (bb.map byteV).set k (byteV (c ^^^ y)) = (bb.set z.toNat (c ^^^ y)).map byteV := by rintro k rfl; rw [List.map_set]
    have hBl : (bb.set z.toNat (c ^^^ y)).length = 256 := by simp [hb256]
    generalize bb.set z.toNat (c ^^^ y) = B at htm hB hBl
    have hdc := fun (w : World) (L2 : List Ch) (u : Value) (hu : IsSl u 256) (hr : Rds J2 L2 u (B.map byteV)) hS => rdecode_ct (w := w) (I := J2) (L := L2) u B 256 hu hBl hr hS
    have hdok := htm
    generalize hDB : RC.decode B = D at hdc hdok htm
    obtain ⟨G, err⟩ := D
    simp only at hdc hdok htm
    unfold partV at hdc
    have hvl2 : vs2.length = N := by rw [hvs2.1, hcll]
    repeat' (first
      | ((with_reducible apply wp_region_plain (id := 17)); refine xv (ex_move (ev_at rfl)) ?_; refine xv (ex_move (ev_at rfl)) ?_; refine xv (ex_len (ev_at rfl) (slT rfl) (by first | assumption | exact IsSl.nil)) ?_; refine xv (ex_cmp (ev_at rfl) (ev_at rfl) (by first | exact lssT (by omega) | exact lssF (by omega) | rfl)) ?_; refine wl_nil ?_)
      | ((with_reducible apply wp_region_plain (id := 19)); refine xv (ex_move (ev_at rfl)) ?_; refine xv (ex_move (ev_at rfl)) ?_; refine wl_of rfl (wp_buildSlice (slT rfl) (szT rfl) (zeT rfl) Fills.nil hS rfl (by first | rfl | assumption) fun b83 w hS => wl_put (by simp only [lset] <;> rfl) ?_); refine xv (ex_move (ev_at rfl)) ?_; refine xv (ex_move (ev_at rfl)) ?_; (first | refine xv (ex_iaN (ev_at rfl) (ev_at rfl) (slT rfl) (szT rfl) (by first | assumption | exact IsSl.nil) (by omega)) ?_ | refine xv (ex_ia (ev_at rfl) (ev_at rfl) (slT rfl) (szT rfl) (by first | assumption | exact IsSl.nil) (by omega) (by omega)) ?_); refine xv (ex_load (ev_at rfl) (ldE1 (u := ub) (hS.rdSI (hu.mono hJ2)) hui (m := i) (by omega) (kdT rfl) (by simpa using hub))) ?_; refine wl_of rfl (wp_append (ev_at rfl) (ev_at rfl) (slT rfl) (szT rfl) (byT rfl) (zeT rfl) hS (srcI hS hubS (by simp [hb256])) (by omega) (by omega) rfl fun v88 w hS hv88 => wl_put (by simp only [lset] <;> rfl) ?_); (first | refine xv (ex_iaN (ev_at rfl) (ev_at rfl) (slT rfl) (szT rfl) (by first | assumption | exact IsSl.nil) (by omega)) ?_ | refine xv (ex_ia (ev_at rfl) (ev_at rfl) (slT rfl) (szT rfl) (by first | assumption | exact IsSl.nil) (by omega) (by omega)) ?_); refine wl_of rfl (wp_storeE1 (v := v73) (u := v88) (ev_at rfl) (ev_at rfl) hS (szT rfl) (by omega) hv88.one fun w hS => wl_put0 ?_); refine wl_nil ?_; (try simp only [lset, splice, sub, List.take_succ_cons, List.take_zero, List.drop_succ_cons, List.drop_zero, List.nil_append, List.cons_append, List.length_cons, List.length_nil, Nat.reduceAdd, Nat.zero_add, rep_zero] at hS))
      | ((with_reducible apply wp_region_plain (id := 20)); refine xv (ex_move (ev_at rfl)) ?_; refine xv (ex_move (ev_at rfl)) ?_; (first | refine xv (ex_iaN (ev_at rfl) (ev_at rfl) (slT rfl) (szT rfl) (by first | assumption | exact IsSl.nil) (by omega)) ?_ | refine xv (ex_ia (ev_at rfl) (ev_at rfl) (slT rfl) (szT rfl) (by first | assumption | exact IsSl.nil) (by omega) (by omega)) ?_); refine xv (ex_load (ev_at rfl) (ldE1 (u := v88) ((hS.rowH (v := v73)).2.2.1) hv73 (m := i) (by omega) (kdT rfl) (setGet (by omega)))) ?_; refine xv (ex_move (ev_at rfl)) ?_; (first | refine xv (ex_iaN (ev_at rfl) (ev_at rfl) (slT rfl) (szT rfl) (by first | assumption | exact IsSl.nil) (by omega)) ?_ | refine xv (ex_ia (ev_at rfl) (ev_at rfl) (slT rfl) (szT rfl) (by first | assumption | exact IsSl.nil) (by omega) (by omega)) ?_); refine xv (ex_load (ev_at rfl) (ldE1 (u := byteV c) ((hS.rowH (v := v88)).2.2.1) hv88 (m := z.toNat) (by omega) (kdT rfl) (byteGet hc (by omega)))) ?_; refine xv (ex_move (ev_at rfl)) ?_; refine xv (ex_xor8 (ev_at rfl) (ev_at rfl)) ?_; (first | refine xv (ex_iaN (ev_at rfl) (ev_at rfl) (slT rfl) (szT rfl) (by first | assumption | exact IsSl.nil) (by omega)) ?_ | refine xv (ex_ia (ev_at rfl) (ev_at rfl) (slT rfl) (szT rfl) (by first | assumption | exact IsSl.nil) (by omega) (by omega)) ?_); refine wl_of rfl (wp_storeETo (v := v88) (u := byteV (c ^^^ y)) (ys := B.map byteV) (ev_at rfl) (ev_at rfl) hS (szT rfl) (by simp [rep_zero, hb256]; omega) rfl (hB _ (by omega)) fun w hS => wl_put0 ?_); refine wl_nil ?_; (try simp only [lset, splice, sub, List.take_succ_cons, List.take_zero, List.drop_succ_cons, List.drop_zero, List.nil_append, List.cons_append, List.length_cons, List.length_nil, Nat.reduceAdd, Nat.zero_add, rep_zero] at hS))
      | ((with_reducible apply wp_region_plain (id := 21)); refine xv (ex_move (ev_at rfl)) ?_; refine xv (ex_move (ev_at rfl)) ?_; (first | refine xv (ex_iaN (ev_at rfl) (ev_at rfl) (slT rfl) (szT rfl) (by first | assumption | exact IsSl.nil) (by omega)) ?_ | refine xv (ex_ia (ev_at rfl) (ev_at rfl) (slT rfl) (szT rfl) (by first | assumption | exact IsSl.nil) (by omega) (by omega)) ?_); refine xv (ex_load (ev_at rfl) (ldE1 (u := v88) ((hS.rowH (v := v73)).2.2.1) hv73 (m := i) (by omega) (kdT rfl) (setGet (by omega)))) ?_; refine wl_of rfl (wp_callL (cbT rfl) (EvL.c (ev_at rfl) EvL.n) ?_); refine (hdc _ _ _ (by simpa using hv88) Rds.row hS).mono ?_; rintro e w ⟨u16, rfl, hu16, hS⟩; refine ⟨_, rfl, wl_put (by simp only [lset] <;> rfl) ?_⟩; refine xv (ex_move (ev_at rfl)) ?_; refine xv (ex_extract (ev_at rfl) rfl) ?_; refine xv (ex_extract (ev_at rfl) rfl) ?_; refine wl_of rfl (wp_alloc hS (zeT rfl) fun b16 w hS => wl_put (by simp only [lset] <;> rfl) ?_); refine wl_of rfl (wp_storeN (ev_at rfl) (ev_at rfl) hS (szT rfl) rfl (by first | rfl | assumption | (simp only [sub, splice, List.take_succ_cons, List.take_zero, List.drop_succ_cons, List.drop_zero, List.nil_append, List.cons_append, List.length_cons, List.length_nil, Nat.reduceAdd, List.all_cons, List.all_nil, Bool.and_eq_true, Bool.and_true]; ((repeat' apply And.intro) <;> first | rfl | assumption | exact IsSl.one (by assumption)))) fun w hS => wl_put0 ?_); refine xv (ex_assign (ev_at rfl)) ?_; refine wl_nil ?_; (try simp only [lset, splice, sub, List.take_succ_cons, List.take_zero, List.drop_succ_cons, List.drop_zero, List.nil_append, List.cons_append, List.length_cons, List.length_nil, Nat.reduceAdd, Nat.zero_add, rep_zero] at hS))
      | ((fail_if_success (with_reducible apply wp_region_plain)); (fail_if_success (with_reducible apply wp_region_GS)); go_step))
    have hv88b : IsSl v88 256 := by simpa using hv88
    by_cases herr : err = 22
    · subst herr
      repeat' (first
        | ((with_reducible apply wp_region_plain (id := 22)); refine xv (ex_move (ev_at rfl)) ?_; refine xv (ex_cmp (ev_at rfl) (ev_const _ _) (by first | exact neqT (by omega) | exact neqF (by omega) | rfl)) ?_; refine wl_nil ?_)
        | ((with_reducible apply wp_region_plain (id := 18)); refine xv (ex_move (ev_at rfl)) ?_; refine xv (ex_arith (ev_at rfl) (ev_const _ _) rfl (by first | exact IntWalk.i64_in _ (by omega) | rfl)) ?_; refine xv (ex_assign (ev_at rfl)) ?_; refine wl_nil ?_)
        | ((fail_if_success (with_reducible apply wp_region_plain)); (fail_if_success (with_reducible apply wp_region_GS)); go_step))
      have hS := hS.drop.drop
      obtain ⟨J4, hJ4, hS, hfr⟩ := hS.freezeRow
      refine loopEndM rfl (N - (i + 1)) ⟨i + 1, J4, vs2.set i v88, cl.set i B, rfl, rfl, by omega, by omega, by rw [List.length_set]; exact hcll, hJ2.trans hJ4, (hvs2.mono hJ4).set (by rw [hBl]; simpa using hfr) i, mem_set hcl256 hBl, ?_, ?_, by simpa using hS⟩ (by omega)
      · rw [List.take_set_of_le hAi, hclt]
      · intro _
        by_cases hAi2 : A = i
        · subst hAi2
          exact ⟨B, List.getElem?_set_self (by omega), by rw [hDB]⟩
        · obtain ⟨b, h3, h4⟩ := hbad2 (by omega)
          exact ⟨b, by rw [List.getElem?_set_ne (by omega)]; exact h3, h4⟩
    · have hcol := htm.resolve_left herr
      clear hv88
      have hd1 := hubi.slv (l := 16) (h := 256) (sz := 1) (by omega) (by omega)
      have hd2 := hv88b.slv (l := 16) (h := 256) (sz := 1) (by omega) (by omega)
      repeat' (first
        | ((with_reducible apply wp_region_plain (id := 22)); refine xv (ex_move (ev_at rfl)) ?_; refine xv (ex_cmp (ev_at rfl) (ev_const _ _) (by first | exact neqT (by omega) | exact neqF (by omega) | rfl)) ?_; refine wl_nil ?_)
        | ((with_reducible apply wp_region_GS (id := 23) 12 (fun j => [0, 1, 2, 3, 4, 5, 6, 7, 8, 9, 10, 11].contains j) mixed); rfl; exact hS; (clear hS; intro w hS); refine xp 0 rfl rfl (fun w => ex_move (ev_at rfl)) ?_; refine xp 1 rfl rfl (fun w => ex_move (ev_at rfl)) ?_; (first | refine xp 2 rfl rfl (fun w => ex_iaN (ev_at rfl) (ev_at rfl) (slT rfl) (szT rfl) (by first | assumption | exact IsSl.nil) (by omega)) ?_ | refine xp 2 rfl rfl (fun w => ex_ia (ev_at rfl) (ev_at rfl) (slT rfl) (szT rfl) (by first | assumption | exact IsSl.nil) (by omega) (by omega)) ?_); refine xr 3 hS rfl rfl (fun w X hS => ex_load (ev_at rfl) (ldE1 (u := ub) (hS.rdSI (hu.mono hJ2)) hui (m := i) (by omega) (kdT rfl) (by simpa using hub))) ?_; refine xp 4 rfl rfl (fun w => ex_sliceL (ev_at rfl) (ev_const _ _) (slT rfl) (szT rfl) (by first | assumption | exact IsSl.nil) (by omega) (by omega)) ?_; refine xp 5 rfl rfl (fun w => ex_move (ev_at rfl)) ?_; refine xp 6 rfl rfl (fun w => ex_move (ev_at rfl)) ?_; (first | refine xp 7 rfl rfl (fun w => ex_iaN (ev_at rfl) (ev_at rfl) (slT rfl) (szT rfl) (by first | assumption | exact IsSl.nil) (by omega)) ?_ | refine xp 7 rfl rfl (fun w => ex_ia (ev_at rfl) (ev_at rfl) (slT rfl) (szT rfl) (by first | assumption | exact IsSl.nil) (by omega) (by omega)) ?_); refine xr 8 hS rfl rfl (fun w X hS => ex_load (ev_at rfl) (ldE1 (u := v88) ((hS.rowH (v := v73)).2.2.1) hv73 (m := i) (by omega) (kdT rfl) (setGet (by omega)))) ?_; refine xp 9 rfl rfl (fun w => ex_sliceL (ev_at rfl) (ev_const _ _) (slT rfl) (szT rfl) (by first | assumption | exact IsSl.nil) (by omega) (by omega)) ?_; refine wg_loud 10 (by decide +kernel) rfl rfl (wp_callL (cbT rfl) (EvL.c (ev_at rfl) (EvL.c (ev_at rfl) EvL.n)) ?_); refine (collideT_ct (slv ub 16 256 1) (slv v88 16 256 1) _ _ 240 hd1 hd2 (by simp [hb256]) (by simp [hBl]) (by omega) (Rds.from16 hubS.rds hubi hb256) (Rds.from16 (Rds.at 2 rfl) hv88b hBl) hcol hS).mono ?_; rintro e w ⟨rfl, hS⟩; refine ⟨_, rfl, ⟨gsT hS, wg_p (by simp only [lset] <;> rfl) ?_⟩⟩; refine xp 11 rfl rfl (fun w => ex_assign (ev_at rfl)) ?_; refine wg_end (by decide +kernel) ?_)
        | ((fail_if_success (with_reducible apply wp_region_plain)); (fail_if_success (with_reducible apply wp_region_GS)); go_step))
      refine end1 (by first | exact .inl rfl | exact .inr rfl) rfl (ResL.rt rfl ResL.rn) ?_
      exact ⟨rfl, hS.nil.anti (hJ.trans hJ2)⟩
  repeat' (first
    | ((with_reducible apply wp_region_plain (id := 17)); refine xv (ex_move (ev_at rfl)) ?_; refine xv (ex_move (ev_at rfl)) ?_; refine xv (ex_len (ev_at rfl) (slT rfl) (by first | assumption | exact IsSl.nil)) ?_; refine xv (ex_cmp (ev_at rfl) (ev_at rfl) (by first | exact lssT (by omega) | exact lssF (by omega) | rfl)) ?_; refine wl_nil ?_)
    | ((fail_if_success (with_reducible apply wp_region_plain)); (fail_if_success (with_reducible apply wp_region_GS)); go_step))
  obtain ⟨J2, hJ4, hS, hfr⟩ := hS.freezeRow
  have hse2 : SecI J2 v73 cl := ⟨vs2, by rw [hcll]; exact hfr, hvs2.mono hJ4⟩
  have hcl : cl.take A = (runL 5 7 ps K).take A := by rw [hclt, hls]
  have hbad : cl.length = A ∨ ∃ b, cl[A]? = some b ∧ (RC.decode b).2 = 22 := .inr (hbad2 (by omega))
  have hJ2 := hJ2.trans hJ4
  clear hJ4 hvs2 hbad2 hclt
  obtain ⟨eS, hscan, heS⟩ := losses (ps := ps) (c := cl) (W := W) (at_ := A) (K := K) (by omega) (by omega) h1 h2 hcl hbad
  have hsc := fun (w : World) (L2 : List Ch) hS => scan_ct (w := w) (I := J2) (L := L2) v73 cl 5 7 hse2 (fun l hl => by have := hcl256 l hl; omega) (by omega) hS
  rw [hscan] at hsc
  simp only at hsc
  have hrsl : ((List.range W).map (recN ps)).length = W := by simp
  have hbranch : (eS = 0 ∧ cl.length = (runL 5 7 ps W).length) ∨ (eS ≠ 0 ∧ cl.length ≠ (runL 5 7 ps W).length) := by
    by_cases h : eS = 0
    · exact .inl ⟨h, heS.1 h⟩
    · exact .inr ⟨h, fun h' => h (heS.2 h')⟩
  have hrg : ∀ i, i < W → ((List.range W).map (recN ps))[i]? = some (recN ps i) := fun i hi => by simp [hi]
  generalize (List.range W).map (recN ps) = rs at hsc hrsl hrg
  generalize (runL 5 7 ps W).length = E0 at hsc hbranch h1
  clear hscan heS hbad hcl h2
  have hci := hv73
  rcases hbranch with ⟨hb1, hb2⟩ | ⟨hb1, hb2⟩
  · exfalso; omega
  all_goals
    repeat' (first
      | ((with_reducible apply wp_region_plain (id := 24)); refine xv (ex_move (ev_at rfl)) ?_; refine wl_of rfl (wp_callL (cbT rfl) (EvL.c (ev_const _ _) (EvL.c (ev_const _ _) (EvL.c (ev_at rfl) EvL.n))) ?_); refine (hsc _ _ hS).mono ?_; rintro e w ⟨J3, u1, rfl, hJ3, ⟨cs3, hu1, hcs3⟩, hS⟩; have hu1i := hu1.is; refine ⟨_, rfl, wl_put (by simp only [lset] <;> rfl) ?_⟩; refine xv (ex_move (ev_at rfl)) ?_; refine xv (ex_extract (ev_at rfl) rfl) ?_; refine xv (ex_extract (ev_at rfl) rfl) ?_; refine xv (ex_extract (ev_at rfl) rfl) ?_; refine xv (ex_assign (ev_at rfl)) ?_; refine xv (ex_assign (ev_at rfl)) ?_; refine xv (ex_assign (ev_at rfl)) ?_; refine wl_nil ?_)
      | ((with_reducible apply wp_region_plain (id := 25)); refine xv (ex_move (ev_at rfl)) ?_; refine xv (ex_len (ev_at rfl) (slT rfl) (by first | assumption | exact IsSl.nil)) ?_; refine xv (ex_move (ev_at rfl)) ?_; refine xv (ex_cmp (ev_at rfl) (ev_at rfl) (by first | exact neqT (by omega) | exact neqF (by omega) | rfl)) ?_; refine xv (ex_move (ev_at rfl)) ?_; (first | refine wl_skip rfl rfl (by simp only [lset] <;> rfl) ?_ | (refine xv (ex_move (ev_at rfl)) ?_)); (first | refine wl_skip rfl rfl (by simp only [lset] <;> rfl) ?_ | (refine xv (ex_move (ev_at rfl)) ?_)); (first | refine wl_skip rfl rfl (by simp only [lset] <;> rfl) ?_ | (refine xv (ex_cmp (ev_at rfl) (ev_at rfl) (by first | exact neqT (by omega) | exact neqF (by omega) | rfl)) ?_)); (first | refine xv (ex_pickT (ev_at rfl) (ev_const _ _)) ?_ | refine xv (ex_pickF (ev_at rfl) (ev_at rfl)) ?_ | refine xv (ex_pickOr (ev_at rfl) (ev_const _ _) (ev_at rfl)) ?_); refine xv (ex_move (ev_at rfl)) ?_; (first | refine wl_skip rfl rfl (by simp only [lset] <;> rfl) ?_ | (refine xv (ex_move (ev_at rfl)) ?_)); (first | refine wl_skip rfl rfl (by simp only [lset] <;> rfl) ?_ | (refine xv (ex_cmp (ev_at rfl) (ev_const _ _) (by first | exact eqlT (by omega) | exact eqlF (by omega) | rfl)) ?_)); (first | refine wl_skip rfl rfl (by simp only [lset] <;> rfl) ?_ | (refine xv (ex_move (ev_at rfl)) ?_)); (first | refine wl_skip rfl rfl (by simp only [lset] <;> rfl) ?_ | (refine xv (ex_len (ev_at rfl) (slT rfl) (by first | assumption | exact IsSl.nil)) ?_)); (first | refine wl_skip rfl rfl (by simp only [lset] <;> rfl) ?_ | (refine xv (ex_move (ev_at rfl)) ?_)); (first | refine wl_skip rfl rfl (by simp only [lset] <;> rfl) ?_ | (refine xv (ex_cmp (ev_at rfl) (ev_at rfl) (by first | exact eqlT (by omega) | exact eqlF (by omega) | rfl)) ?_)); (first | refine wl_skip rfl rfl (by simp only [lset] <;> rfl) ?_ | (refine xv (ex_neqBool (ev_at rfl) (ev_at rfl) (unT rfl)) ?_)); (first | refine xv (ex_pickT (ev_at rfl) (ev_const _ _)) ?_ | refine xv (ex_pickF (ev_at rfl) (ev_at rfl)) ?_ | refine xv (ex_pickOr (ev_at rfl) (ev_const _ _) (ev_at rfl)) ?_); refine wl_nil ?_)
      | ((with_reducible apply wp_region_plain (id := 27)); refine xv (ex_assign (ev_const _ _)) ?_; refine wl_nil ?_)
      | ((fail_if_success (with_reducible apply wp_region_plain)); (fail_if_success (with_reducible apply wp_region_GS)); go_step))
    refine wp_loopM [false, false, false, false, false, false, true, false, false, false, false, false, false, false, false, false, false, false, false, false, false, true, false, false, false, false, false, false, false, false, false, false, false, false, false, false, false, false, false, false, false, false, false, false, false, false, false, false, false, false, false, false, false, false, false, false, false, false, false, false, false, false, false, false, false, false, false, false, false, false, false, false, false, false, false, false, false, false, false, false, false, false, false, false, false, false, false, false, false, false, false, false, false, false, false, false, false, false, false, false, false, false, false, false, false, false, false, false, false, false, false, false, false, false, false, false, false, false, false, false, false, false, false, false, false, false, false, false, false, false, false, false, false, false, false, false, false, false, false, false, false, false, false, false, false, true, true, true, true, true, true, true, true, true, true, true, true, true, true, true, true, true, true, true, true, true, true, true, true, true, true, true, true, true, true, true, true, true, true] (fun n f w => ∃ i : Nat, n = W - i ∧ f 21 = .int .i64 i ∧ i ≤ W ∧ Sat w J3 ([Cells b7 75 [.int .i64 5, .int .i64 7, pv, .slice none 0 0, .slice none 0 0, .int .u8 0]])) rfl W ⟨0, rfl, rfl, by omega, hS⟩ ?_
    clear hS
    rintro n f w ⟨i, rfl, h21, hi, hS⟩
    simp only [havoc, Nat.reduceAdd, h21]
    by_cases hlt : i < W
    case neg =>
      repeat' (first
        | ((with_reducible apply wp_region_plain (id := 28)); refine xv (ex_move (ev_at rfl)) ?_; refine xv (ex_move (ev_at rfl)) ?_; refine xv (ex_cmp (ev_at rfl) (ev_at rfl) (by first | exact lssT (by omega) | exact lssF (by omega) | rfl)) ?_; refine wl_nil ?_)
        | ((with_reducible apply wp_region_plain (id := 32)); refine xv (ex_assign (ev_const _ _)) ?_; refine wl_nil ?_)
        | ((fail_if_success (with_reducible apply wp_region_plain)); (fail_if_success (with_reducible apply wp_region_GS)); go_step))
      refine end1 (by first | exact .inl rfl | exact .inr rfl) rfl (ResL.rt rfl ResL.rn) ?_
      exact ⟨rfl, hS.nil.anti (hJ.trans (hJ2.trans hJ3))⟩
    obtain ⟨pv, hs1, hp1⟩ := hcs3.get i _ (hrg i hlt)
    have hips : i < ps.length := by omega
    have hg : ps[i]? = some ps[i] := List.getElem?_eq_getElem hips
    obtain ⟨pu, hcell, hpui, hpr⟩ := hcel _ _ hg
    have hpay : (recN ps i).pay = ps[i].take 600 := by simp [recN, hips]
    have hnum : (recN ps i).num = 7 + (i : Int) := rfl
    rw [hpay] at hp1
    rw [hnum] at hs1
    generalize ps[i] = p at hcell hpui hpr hg hp1
    obtain ⟨m, hm1, hm2, hm3, hv2, hr2⟩ := cutq600 rfl hpui hpr
    have hu1n : IsSl u1 W := by rw [← hrsl]; exact hu1i
    repeat' (first
      | ((with_reducible apply wp_region_plain (id := 28)); refine xv (ex_move (ev_at rfl)) ?_; refine xv (ex_move (ev_at rfl)) ?_; refine xv (ex_cmp (ev_at rfl) (ev_at rfl) (by first | exact lssT (by omega) | exact lssF (by omega) | rfl)) ?_; refine wl_nil ?_)
      | ((with_reducible apply wp_region_GS (id := 30) 29 (fun j => [0, 1, 2, 3, 4, 5, 6, 7, 8, 9, 10, 11, 12, 13, 14, 15, 16, 17, 18, 19, 20, 21, 22, 23, 24, 25, 26, 27, 28].contains j) mixed); rfl; exact hS; (clear hS; intro w hS); refine xp 0 rfl rfl (fun w => ex_move (ev_at rfl)) ?_; refine xp 1 rfl rfl (fun w => ex_move (ev_at rfl)) ?_; (first | refine xp 2 rfl rfl (fun w => ex_iaN (ev_at rfl) (ev_at rfl) (slT rfl) (szT rfl) (by first | assumption | exact IsSl.nil) (by omega)) ?_ | refine xp 2 rfl rfl (fun w => ex_ia (ev_at rfl) (ev_at rfl) (slT rfl) (szT rfl) (by first | assumption | exact IsSl.nil) (by omega) (by omega)) ?_); (first | refine xp 3 rfl rfl (fun w => ex_fa (ev_at rfl) (flT rfl)) ?_ | refine xp 3 rfl rfl (fun w => ex_faE (ev_at rfl) (flT rfl) (by assumption) (by assumption)) ?_); refine xr 4 hS rfl rfl (fun w X hS => ex_load (ev_at rfl) (ldE1 (u := .int .i64 (7 + (i : Int))) (hS.rdSI hu1) hu1n (m := i) hlt (kdT rfl) (sub_get hs1 (j := 2) rfl))) ?_; refine xp 5 rfl rfl (fun w => ex_move (ev_at rfl)) ?_; refine xp 6 rfl rfl (fun w => ex_arith (ev_const _ _) (ev_at rfl) rfl (by first | exact IntWalk.i64_in _ (by omega) | rfl)) ?_; refine xp 7 rfl rfl (fun w => ex_cmp (ev_at rfl) (ev_at rfl) (by first | exact neqT (by omega) | exact neqF (by omega) | rfl)) ?_; refine xp 8 rfl rfl (fun w => ex_move (ev_at rfl)) ?_; (first | refine wg_skip 9 (by decide +kernel) rfl rfl (fun _ _ _ h => h) rfl (by simp only [lset] <;> rfl) ?_ | (refine xp 9 rfl rfl (fun w => ex_move (ev_at rfl)) ?_)); (first | refine wg_skip 10 (by decide +kernel) rfl rfl (fun _ _ _ h => h) rfl (by simp only [lset] <;> rfl) ?_ | (refine xp 10 rfl rfl (fun w => ex_move (ev_at rfl)) ?_)); (first | refine wg_skip 11 (by decide +kernel) rfl rfl (fun _ _ _ h => h) rfl (by simp only [lset] <;> rfl) ?_ | ((first | refine xp 11 rfl rfl (fun w => ex_iaN (ev_at rfl) (ev_at rfl) (slT rfl) (szT rfl) (by first | assumption | exact IsSl.nil) (by omega)) ?_ | refine xp 11 rfl rfl (fun w => ex_ia (ev_at rfl) (ev_at rfl) (slT rfl) (szT rfl) (by first | assumption | exact IsSl.nil) (by omega) (by omega)) ?_))); (first | refine wg_skip 12 (by decide +kernel) rfl rfl (fun _ _ _ h => h) rfl (by simp only [lset] <;> rfl) ?_ | ((first | refine xp 12 rfl rfl (fun w => ex_fa (ev_at rfl) (flT rfl)) ?_ | refine xp 12 rfl rfl (fun w => ex_faE (ev_at rfl) (flT rfl) (by assumption) (by assumption)) ?_))); (first | refine wg_skip 13 (by decide +kernel) rfl rfl (fun _ _ _ h => h) rfl (by simp only [lset] <;> rfl) ?_ | (refine xr 13 hS rfl rfl (fun w X hS => ex_load (ev_at rfl) (ldE1 (u := pv) (hS.rdSI hu1) hu1n (m := i) hlt (kdT rfl) (sub_get hs1 (j := 3) rfl))) ?_)); (first | refine wg_skip 14 (by decide +kernel) rfl rfl (fun _ _ _ h => h) rfl (by simp only [lset] <;> rfl) ?_ | (refine xr 14 hS rfl rfl (fun w X hS => ex_bytesStr (bs := p.take 600) (ev_at rfl) (slT rfl) (inT rfl) (unT rfl) (hS.rdSI hp1) hp1.is) ?_)); (first | refine wg_skip 15 (by decide +kernel) rfl rfl (fun _ _ _ h => h) rfl (by simp only [lset] <;> rfl) ?_ | (refine xp 15 rfl rfl (fun w => ex_move (ev_at rfl)) ?_)); (first | refine wg_skip 16 (by decide +kernel) rfl rfl (fun _ _ _ h => h) rfl (by simp only [lset] <;> rfl) ?_ | (refine xp 16 rfl rfl (fun w => ex_move (ev_at rfl)) ?_)); (first | refine wg_skip 17 (by decide +kernel) rfl rfl (fun _ _ _ h => h) rfl (by simp only [lset] <;> rfl) ?_ | ((first | refine xp 17 rfl rfl (fun w => ex_iaN (ev_at rfl) (ev_at rfl) (slT rfl) (szT rfl) (by first | assumption | exact IsSl.nil) (by omega)) ?_ | refine xp 17 rfl rfl (fun w => ex_ia (ev_at rfl) (ev_at rfl) (slT rfl) (szT rfl) (by first | assumption | exact IsSl.nil) (by omega) (by omega)) ?_))); (first | refine wg_skip 18 (by decide +kernel) rfl rfl (fun _ _ _ h => h) rfl (by simp only [lset] <;> rfl) ?_ | (refine xr 18 hS rfl rfl (fun w X hS => ex_load (ev_at rfl) (ldE1 (u := pu) ((hcs.mono (hJ.trans (hJ2.trans hJ3))).rd0 hS) pvi (m := i) hips (kdT rfl) (by simpa using hcell))) ?_)); (first | refine wg_skip 19 (by decide +kernel) rfl rfl (fun _ _ _ h => h) rfl (by simp only [lset] <;> rfl) ?_ | (refine xp 19 rfl rfl (fun w => ex_move (ev_at rfl)) ?_)); (first | refine wg_skip 20 (by decide +kernel) rfl rfl (fun _ _ _ h => h) rfl (by simp only [lset] <;> rfl) ?_ | (refine xp 20 rfl rfl (fun w => ex_move (ev_at rfl)) ?_)); (first | refine wg_skip 21 (by decide +kernel) rfl rfl (fun _ _ _ h => h) rfl (by simp only [lset] <;> rfl) ?_ | ((first | refine xp 21 rfl rfl (fun w => ex_iaN (ev_at rfl) (ev_at rfl) (slT rfl) (szT rfl) (by first | assumption | exact IsSl.nil) (by omega)) ?_ | refine xp 21 rfl rfl (fun w => ex_ia (ev_at rfl) (ev_at rfl) (slT rfl) (szT rfl) (by first | assumption | exact IsSl.nil) (by omega) (by omega)) ?_))); (first | refine wg_skip 22 (by decide +kernel) rfl rfl (fun _ _ _ h => h) rfl (by simp only [lset] <;> rfl) ?_ | (refine xr 22 hS rfl rfl (fun w X hS => ex_load (ev_at rfl) (ldE1 (u := pu) ((hcs.mono (hJ.trans (hJ2.trans hJ3))).rd0 hS) pvi (m := i) hips (kdT rfl) (by simpa using hcell))) ?_)); (first | refine wg_skip 23 (by decide +kernel) rfl rfl (fun _ _ _ h => h) rfl (by simp only [lset] <;> rfl) ?_ | (refine xp 23 rfl rfl (fun w => ex_len (ev_at rfl) (slT rfl) (by first | assumption | exact IsSl.nil)) ?_)); (first | refine wg_skip 24 (by decide +kernel) rfl rfl (fun _ _ _ h => h) rfl (by simp only [lset] <;> rfl) ?_ | (refine xp 24 rfl rfl (fun w => ex_min2r (r := (m : Int)) (ev_at rfl) (ev_const _ _) hm1) ?_)); (first | refine wg_skip 25 (by decide +kernel) rfl rfl (fun _ _ _ h => h) rfl (by simp only [lset] <;> rfl) ?_ | (refine xp 25 rfl rfl (fun w => ex_sliceH (ev_at rfl) (ev_at rfl) (slT rfl) (szT rfl) (by first | assumption | exact IsSl.nil) (by omega) (by omega)) ?_)); (first | refine wg_skip 26 (by decide +kernel) rfl rfl (fun _ _ _ h => h) rfl (by simp only [lset] <;> rfl) ?_ | (refine xr 26 hS rfl rfl (fun w X hS => ex_bytesStr (bs := p.take 600) (ev_at rfl) (slT rfl) (inT rfl) (unT rfl) ((hr2.mono (hJ.trans (hJ2.trans hJ3))).rd0 hS) (by rw [hm3]; exact hv2)) ?_)); (first | refine wg_skip 27 (by decide +kernel) rfl rfl (fun _ _ _ h => h) rfl (by simp only [lset] <;> rfl) ?_ | (refine xp 27 rfl rfl (fun w => ex_neqStrR (ev_at rfl) (ev_at rfl)) ?_)); (first | refine xp 28 rfl rfl (fun w => ex_pickT (ev_at rfl) (ev_const _ _)) ?_ | refine xp 28 rfl rfl (fun w => ex_pickF (ev_at rfl) (ev_at rfl)) ?_ | refine xp 28 rfl rfl (fun w => ex_pickOr (ev_at rfl) (ev_const _ _) (ev_at rfl)) ?_); refine wg_end (by decide +kernel) ?_)
      | ((with_reducible apply wp_region_plain (id := 29)); refine xv (ex_move (ev_at rfl)) ?_; refine xv (ex_arith (ev_at rfl) (ev_const _ _) rfl (by first | exact IntWalk.i64_in _ (by omega) | rfl)) ?_; refine xv (ex_assign (ev_at rfl)) ?_; refine wl_nil ?_)
      | ((fail_if_success (with_reducible apply wp_region_plain)); (fail_if_success (with_reducible apply wp_region_GS)); go_step))
    exact loopEndM rfl (W - (i + 1)) ⟨i + 1, rfl, rfl, by omega, hS⟩ (by omega)
end
end Go.Proofs.Try
