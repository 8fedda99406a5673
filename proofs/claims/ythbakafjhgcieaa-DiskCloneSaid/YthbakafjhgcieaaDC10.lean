/- The device: contracts (10): Damage. -/
import Derived.Test.YthbakafjhgcieaaDC9
namespace Go.Proofs.Try
open Go.RowKit Go.SL Go.DK
set_option maxRecDepth 100000
set_option linter.unusedSimpArgs false
set_option linter.unusedVariables false
section
variable {w : World} {I : Gh} {L : List Ch}
theorem xorAt_map (b : List UInt8) (i : Nat) (x c : UInt8) (h : b[i]? = some x) : (b.map byteV).set i (byteV (x ^^^ c)) = (xorAt b i c).map byteV := by
  simp [xorAt, h, List.map_set]
theorem xorAt_len (b : List UInt8) (i : Nat) (c : UInt8) : (xorAt b i c).length = b.length := by simp [xorAt]
theorem set_eq {α : Type} {l : List α} {i : Nat} {a : α} (h : l[i]? = some a) : l.set i a = l := by
  obtain ⟨h1, h2⟩ := List.getElem?_eq_some_iff.1 h
  subst h2
  exact List.set_getElem_self h1
def pendTo (D : DS) (k : Int) (i : Nat) (c : UInt8) (n : Nat) : List (Int × List UInt8) := (D.pend.take n).map (xorW k i c) ++ D.pend.drop n
theorem pendTo_len (D : DS) (k : Int) (i : Nat) (c : UInt8) (n : Nat) (h : n ≤ D.pend.length) : (pendTo D k i c n).length = D.pend.length := by simp [pendTo]; omega
theorem pendTo_ok {D : DS} (hD : D.Ok) (k : Int) (i : Nat) (c : UInt8) (n : Nat) : ∀ p ∈ pendTo D k i c n, p.2.length = 256 := by
  intro p hp
  rcases List.mem_append.1 hp with hp | hp
  · obtain ⟨q, hq, rfl⟩ := List.mem_map.1 hp
    have := hD.pend q (List.mem_of_mem_take hq)
    unfold xorW
    split
    · simpa [xorAt] using this
    · exact this
  · exact hD.pend p (List.mem_of_mem_drop hp)
theorem pendTo_get {D : DS} {k : Int} {i : Nat} {c : UInt8} {n : Nat} {p : Int × List UInt8} (h : D.pend[n]? = some p) : (pendTo D k i c n)[n]? = some p := by
  have hn := (List.getElem?_eq_some_iff.1 h).1
  rw [pendTo, List.getElem?_append_right (by simp; omega)]
  simp [Nat.min_eq_left (Nat.le_of_lt hn), h]
theorem pendTo_succ {D : DS} {k : Int} {i : Nat} {c : UInt8} {n : Nat} {p : Int × List UInt8} (h : D.pend[n]? = some p) : pendTo D k i c (n + 1) = (pendTo D k i c n).set n (xorW k i c p) := by
  have hn := (List.getElem?_eq_some_iff.1 h).1
  rw [pendTo, pendTo, take_snoc h, List.map_append, List.set_append_right _ _ (by simp; omega)]
  have e : D.pend.drop n = p :: D.pend.drop (n + 1) := by rw [List.drop_eq_getElem_cons hn]; congr 1; rw [List.getElem?_eq_getElem hn] at h; simpa using h
  rw [e]
  simp [Nat.min_eq_left (Nat.le_of_lt hn)]
set_option maxHeartbeats 2000000 in
theorem damage_ct (b : Nat) (D : DS) (k at_ : Int) (c : UInt8) (hD : D.Ok) (hp : D.pend.length < 1000) (hS : Sat w I (DiskC b D :: L)) :
    Calls Try.prog 45 #[.pointer (some ⟨b, 0, none⟩), .int .i64 k, .int .i64 at_, byteV c] w fun e w' => e = .returned (.int .i64 (D.damage k at_ c).2) ∧ Sat w' I (DiskC b (D.damage k at_ c).1 :: L) := by
  obtain ⟨m, pv, hS⟩ := disk_open hS
  by_cases hk : 0 ≤ k ∧ k < D.n
  case neg =>
    have e : D.damage k at_ c = (D, 8) := by simp [DS.damage, hk]
    rw [e]
    go_enter Try.func45, Try.ntmps45
    repeat' (first
      | ((with_reducible apply wp_region_plain (id := 0)); refine xv (ex_assign (ev_const _ _)) ?_; refine wl_nil ?_)
      | ((with_reducible apply wp_region_plain (id := 1)); refine xv (ex_move (ev_at rfl)) ?_; (first | refine xv (ex_eqlPtrS (ev_at rfl) (ev_const _ _) (unT rfl)) ?_ | refine xv (ex_eqlPtrN (ev_at rfl) (ev_const _ _) (unT rfl)) ?_ | refine xv (ex_eqlPtr (ev_at rfl) (ev_const _ _) (unT rfl)) ?_); refine xv (ex_assign (ev_at rfl)) ?_; refine wl_nil ?_)
      | ((with_reducible apply wp_region_plain (id := 3)); refine xv (ex_move (ev_at rfl)) ?_; refine xv (ex_move (ev_at rfl)) ?_; refine wl_of rfl (wp_callL (cbT rfl) (EvL.c (ev_at rfl) (EvL.c (ev_at rfl) EvL.n)) ?_); refine (has_f b _ _ _ _ _ _ _ _ hk hS).mono ?_; rintro e w ⟨rfl, hS⟩; refine ⟨_, rfl, wl_put (by simp only [lset] <;> rfl) ?_⟩; refine xv (ex_not (ev_at rfl)) ?_; refine xv (ex_assign (ev_at rfl)) ?_; refine wl_nil ?_)
      | ((with_reducible apply wp_region_plain (id := 4)); refine xv (ex_assign (ev_const _ _)) ?_; refine wl_nil ?_)
      | ((fail_if_success (with_reducible apply wp_region_plain)); (fail_if_success (with_reducible apply wp_region_GS)); go_step))
    refine end1 (by first | exact .inl rfl | exact .inr rfl) rfl (ResL.rt rfl ResL.rn) ?_
    exact ⟨rfl, disk_shut hS⟩
  by_cases ha : at_ < 0 ∨ 256 ≤ at_
  · have e : D.damage k at_ c = (D, 2) := by simp [DS.damage, hk, ha]
    rw [e]
    by_cases ha2 : at_ < 0
    all_goals
     go_enter Try.func45, Try.ntmps45
     repeat' (first
       | ((with_reducible apply wp_region_plain (id := 0)); refine xv (ex_assign (ev_const _ _)) ?_; refine wl_nil ?_)
       | ((with_reducible apply wp_region_plain (id := 1)); refine xv (ex_move (ev_at rfl)) ?_; (first | refine xv (ex_eqlPtrS (ev_at rfl) (ev_const _ _) (unT rfl)) ?_ | refine xv (ex_eqlPtrN (ev_at rfl) (ev_const _ _) (unT rfl)) ?_ | refine xv (ex_eqlPtr (ev_at rfl) (ev_const _ _) (unT rfl)) ?_); refine xv (ex_assign (ev_at rfl)) ?_; refine wl_nil ?_)
       | ((with_reducible apply wp_region_plain (id := 3)); refine xv (ex_move (ev_at rfl)) ?_; refine xv (ex_move (ev_at rfl)) ?_; refine wl_of rfl (wp_callL (cbT rfl) (EvL.c (ev_at rfl) (EvL.c (ev_at rfl) EvL.n)) ?_); refine (has_t b _ _ _ _ _ _ _ _ hk hS).mono ?_; rintro e w ⟨rfl, hS⟩; refine ⟨_, rfl, wl_put (by simp only [lset] <;> rfl) ?_⟩; refine xv (ex_not (ev_at rfl)) ?_; refine xv (ex_assign (ev_at rfl)) ?_; refine wl_nil ?_)
       | ((with_reducible apply wp_region_plain (id := 5)); refine xv (ex_move (ev_at rfl)) ?_; refine xv (ex_cmp (ev_at rfl) (ev_const _ _) (by first | exact lssT (by omega) | exact lssF (by omega) | rfl)) ?_; refine xv (ex_move (ev_at rfl)) ?_; (first | refine wl_skip rfl rfl (by simp only [lset] <;> rfl) ?_ | (refine xv (ex_move (ev_at rfl)) ?_)); (first | refine wl_skip rfl rfl (by simp only [lset] <;> rfl) ?_ | (refine xv (ex_cmp (ev_at rfl) (ev_const _ _) (by first | exact geqT (by omega) | exact geqF (by omega) | rfl)) ?_)); (first | refine xv (ex_pickT (ev_at rfl) (ev_const _ _)) ?_ | refine xv (ex_pickF (ev_at rfl) (ev_at rfl)) ?_ | refine xv (ex_pickOr (ev_at rfl) (ev_const _ _) (ev_at rfl)) ?_); refine xv (ex_assign (ev_at rfl)) ?_; refine wl_nil ?_)
       | ((with_reducible apply wp_region_plain (id := 6)); refine xv (ex_assign (ev_const _ _)) ?_; refine wl_nil ?_)
       | ((fail_if_success (with_reducible apply wp_region_plain)); (fail_if_success (with_reducible apply wp_region_GS)); go_step))
     refine end1 (by first | exact .inl rfl | exact .inr rfl) rfl (ResL.rt rfl ResL.rn) ?_
     exact ⟨rfl, disk_shut hS⟩
  have e : D.damage k at_ c = ({ D with dur := put D.dur k (xorAt (dget D.dur k) at_.toNat c), pend := D.pend.map (xorW k at_.toNat c) }, 0) := by simp [DS.damage, hk, ha]
  rw [e]
  have hgl := hD.dget_len k
  obtain ⟨x, hx⟩ : ∃ x, (dget D.dur k)[at_.toNat]? = some x := ⟨_, List.getElem?_eq_getElem (by omega)⟩
  go_enter Try.func45, Try.ntmps45
  repeat' (first
    | ((with_reducible apply wp_region_plain (id := 0)); refine xv (ex_assign (ev_const _ _)) ?_; refine wl_nil ?_)
    | ((with_reducible apply wp_region_plain (id := 1)); refine xv (ex_move (ev_at rfl)) ?_; (first | refine xv (ex_eqlPtrS (ev_at rfl) (ev_const _ _) (unT rfl)) ?_ | refine xv (ex_eqlPtrN (ev_at rfl) (ev_const _ _) (unT rfl)) ?_ | refine xv (ex_eqlPtr (ev_at rfl) (ev_const _ _) (unT rfl)) ?_); refine xv (ex_assign (ev_at rfl)) ?_; refine wl_nil ?_)
    | ((with_reducible apply wp_region_plain (id := 3)); refine xv (ex_move (ev_at rfl)) ?_; refine xv (ex_move (ev_at rfl)) ?_; refine wl_of rfl (wp_callL (cbT rfl) (EvL.c (ev_at rfl) (EvL.c (ev_at rfl) EvL.n)) ?_); refine (has_t b _ _ _ _ _ _ _ _ hk hS).mono ?_; rintro e w ⟨rfl, hS⟩; refine ⟨_, rfl, wl_put (by simp only [lset] <;> rfl) ?_⟩; refine xv (ex_not (ev_at rfl)) ?_; refine xv (ex_assign (ev_at rfl)) ?_; refine wl_nil ?_)
    | ((with_reducible apply wp_region_plain (id := 5)); refine xv (ex_move (ev_at rfl)) ?_; refine xv (ex_cmp (ev_at rfl) (ev_const _ _) (by first | exact lssT (by omega) | exact lssF (by omega) | rfl)) ?_; refine xv (ex_move (ev_at rfl)) ?_; (first | refine wl_skip rfl rfl (by simp only [lset] <;> rfl) ?_ | (refine xv (ex_move (ev_at rfl)) ?_)); (first | refine wl_skip rfl rfl (by simp only [lset] <;> rfl) ?_ | (refine xv (ex_cmp (ev_at rfl) (ev_const _ _) (by first | exact geqT (by omega) | exact geqF (by omega) | rfl)) ?_)); (first | refine xv (ex_pickT (ev_at rfl) (ev_const _ _)) ?_ | refine xv (ex_pickF (ev_at rfl) (ev_at rfl)) ?_ | refine xv (ex_pickOr (ev_at rfl) (ev_const _ _) (ev_at rfl)) ?_); refine xv (ex_assign (ev_at rfl)) ?_; refine wl_nil ?_)
    | ((with_reducible apply wp_region_plain (id := 7)); refine xv (ex_move (ev_at rfl)) ?_; (first | refine xv (ex_nilCheck (ev_at rfl)) ?_ | refine xv (ex_nilCheckF (ev_at rfl)) ?_); (first | refine xv (ex_fa (ev_at rfl) (flT rfl)) ?_ | refine xv (ex_faE (ev_at rfl) (flT rfl) (by assumption) (by assumption)) ?_); refine xv (ex_load (ev_at rfl) (by first | exact ld1 hS (kdT rfl) rfl | exact ld1 (v := byteV x) hS (kdT rfl) (by simp [hx]))) ?_; refine xv (ex_move (ev_at rfl)) ?_; refine xv (ex_lookD (ev_at rfl) (ev_at rfl) hS) ?_; refine wl_of rfl (wp_alloc hS (zeT rfl) fun b9 w hS => wl_put (by simp only [lset] <;> rfl) ?_); (first | refine wl_of rfl (wp_storeN (ev_at rfl) (ev_at rfl) hS (szT rfl) rfl (by first | rfl | assumption | (simp only [sub, splice, List.take_succ_cons, List.take_zero, List.drop_succ_cons, List.drop_zero, List.nil_append, List.cons_append, List.length_cons, List.length_nil, Nat.reduceAdd, List.all_cons, List.all_nil, Bool.and_eq_true, Bool.and_true]; ((repeat' apply And.intro) <;> first | rfl | assumption | exact IsSl.one (by assumption)))) fun w hS => wl_put0 ?_) | refine wl_of rfl (wp_storeW (vs := (dget D.dur k).map byteV) (ev_at rfl) (ev_at rfl) hS (szT rfl) (by simp [hgl]) (by simp) (byteV_Oc _) fun w hS => wl_put0 ?_) | refine wl_of rfl (wp_store1s (ev_at rfl) (ev_at rfl) hS (szT rfl) (by simp [hgl]; omega) rfl fun w hS => wl_put0 ?_)); refine wl_nil ?_; (try simp only [lset, splice, sub, List.take_succ_cons, List.take_zero, List.drop_succ_cons, List.drop_zero, List.nil_append, List.cons_append, List.length_cons, List.length_nil, Nat.reduceAdd, Nat.zero_add, rep_zero] at hS))
    | ((with_reducible apply wp_region_plain (id := 8)); refine xv (ex_move (ev_at rfl)) ?_; (first | refine xv (ex_iaA (ev_at rfl) (ev_at rfl) (arT rfl) (szT rfl) (by omega) (by omega)) ?_ | refine xv (ex_iaAE (ev_at rfl) (ev_at rfl) (arT rfl) (szT rfl) (by assumption) (by omega) (by omega) (by omega)) ?_); refine xv (ex_load (ev_at rfl) (by first | exact ld1 hS (kdT rfl) rfl | exact ld1 (v := byteV x) hS (kdT rfl) (by simp [hx]))) ?_; refine xv (ex_move (ev_at rfl)) ?_; refine xv (ex_xor8 (ev_at rfl) (ev_at rfl)) ?_; (first | refine xv (ex_iaA (ev_at rfl) (ev_at rfl) (arT rfl) (szT rfl) (by omega) (by omega)) ?_ | refine xv (ex_iaAE (ev_at rfl) (ev_at rfl) (arT rfl) (szT rfl) (by assumption) (by omega) (by omega) (by omega)) ?_); (first | refine wl_of rfl (wp_store1 (ev_at rfl) (ev_at rfl) hS (szT rfl) rfl (by first | rfl | exact IsSl.one (by assumption)) fun w hS => wl_put0 ?_) | refine wl_of rfl (wp_storeW (vs := (dget D.dur k).map byteV) (ev_at rfl) (ev_at rfl) hS (szT rfl) (by simp [hgl]) (by simp) (byteV_Oc _) fun w hS => wl_put0 ?_) | refine wl_of rfl (wp_store1s (ev_at rfl) (ev_at rfl) hS (szT rfl) (by simp [hgl]; omega) rfl fun w hS => wl_put0 ?_)); refine wl_nil ?_; (try simp only [lset, Nat.reduceAdd, Nat.zero_add] at hS))
    | ((fail_if_success (with_reducible apply wp_region_plain)); (fail_if_success (with_reducible apply wp_region_GS)); go_step))
  rw [Nat.mul_one, xorAt_map _ _ _ _ hx] at hS
  have hxl : (xorAt (dget D.dur k) at_.toNat c).length = 256 := by rw [xorAt_len, hgl]
  obtain ⟨hv, -, -, -⟩ := hS.row 3 rfl
  repeat' (first
    | ((with_reducible apply wp_region_plain (id := 9)); refine xv (ex_move (ev_at rfl)) ?_; refine xv (ex_move (ev_at rfl)) ?_; refine xv (ex_load (ev_at rfl) (by first | exact ldN hS (kdT rfl) (szT rfl) rfl | exact ldW hS (kdT rfl) (szT rfl) (by simpa using hxl))) ?_; refine wl_of rfl (wp_callL (cbT rfl) (EvL.c (ev_at rfl) (EvL.c (ev_at rfl) (EvL.c (ev_at rfl) EvL.n))) ?_); refine (store_ct b m k _ _ _ _ _ _ _ _ hxl hS.drop).mono ?_; rintro e w ⟨rfl, hS⟩; refine ⟨_, rfl, wl_put (by simp only [lset] <;> rfl) ?_⟩; refine wl_nil ?_)
    | ((with_reducible apply wp_region_plain (id := 10)); refine xv (ex_move (ev_at rfl)) ?_; (first | refine xv (ex_nilCheck (ev_at rfl)) ?_ | refine xv (ex_nilCheckF (ev_at rfl)) ?_); (first | refine xv (ex_fa (ev_at rfl) (flT rfl)) ?_ | refine xv (ex_faE (ev_at rfl) (flT rfl) (by assumption) (by assumption)) ?_); refine xv (ex_load (ev_at rfl) (by first | exact ld1 hS (kdT rfl) rfl | exact ldW hS (kdT rfl) (szT rfl) (by simpa using hxl))) ?_; refine xv (ex_len (ev_at rfl) (slT rfl) (by first | assumption | exact IsSl.nil)) ?_; refine xv (ex_move (ev_const _ _)) ?_; refine wl_nil ?_)
    | ((fail_if_success (with_reducible apply wp_region_plain)); (fail_if_success (with_reducible apply wp_region_GS)); go_step))
  refine wp_loopR [false, false, false, false, false, false, false, false, false, false, true, false, false, false, false, false, false, false, false, false, false, false, false, false, false, false, false, false, false, false, false, false, false, false, false, false, false, false, false, false, false, false, false, false, false, false, false, true, true, true, true, true, true, true, true, true, true, true, true, true, true, true, true, true, true, true, true, true, true, true, true, true, true, true, true, true] (fun f w => ∃ i : Nat, f 47 = .int .i64 i ∧ i ≤ D.pend.length ∧ Sat w I (Cells b 71 [.int .i64 D.n, .map (some m), pv, .int .i64 D.ops, .bool D.limd, .int .i64 D.lim, .bool D.down] ::
    MapI m (dkv (put D.dur k (xorAt (dget D.dur k) at_.toNat c))) :: Row pv 75 257 D.pend.length (flatP (pendTo D k at_.toNat c i)) :: L)) (fun f _ => D.pend.length - ivN (f 47)) rfl ⟨0, rfl, by omega, by simpa [pendTo] using hS⟩ ?_
  clear hS
  rintro f w ⟨i, h47, hi, hS⟩
  simp only [havoc, Nat.reduceAdd, h47]
  by_cases hlt : i < D.pend.length
  · obtain ⟨p, hp1⟩ : ∃ p, D.pend[i]? = some p := ⟨_, List.getElem?_eq_getElem hlt⟩
    have hp2 : p.2.length = 256 := hD.pend p (List.mem_of_getElem? hp1)
    have hpo := pendTo_ok hD k at_.toNat c i
    have hpg : (pendTo D k at_.toNat c i)[i]? = some p := pendTo_get hp1
    have hg0 := flatP_get hpo hpg (j := 0) (by omega)
    have hg1 := flatP_get hpo hpg (j := 1 + at_.toNat) (by omega)
    obtain ⟨y, hy⟩ : ∃ y, p.2[at_.toNat]? = some y := ⟨_, List.getElem?_eq_getElem (by omega)⟩
    have hfl := flatP_len hpo
    rw [pendTo_len _ _ _ _ _ hi] at hfl
    by_cases hk2 : p.1 = k
    · repeat' (first
        | ((with_reducible apply wp_region_plain (id := 11)); refine xv (ex_cmp (ev_at rfl) (ev_at rfl) (by first | exact lssT (by omega) | exact lssF (by omega) | rfl)) ?_; refine wl_nil ?_)
        | ((with_reducible apply wp_region_plain (id := 12)); refine xv (ex_move (ev_at rfl)) ?_; refine xv (ex_assign (ev_at rfl)) ?_; refine wl_nil ?_)
        | ((with_reducible apply wp_region_plain (id := 13)); refine xv (ex_move (ev_at rfl)) ?_; (first | refine xv (ex_nilCheck (ev_at rfl)) ?_ | refine xv (ex_nilCheckF (ev_at rfl)) ?_); (first | refine xv (ex_fa (ev_at rfl) (flT rfl)) ?_ | refine xv (ex_faE (ev_at rfl) (flT rfl) (by assumption) (by assumption)) ?_); refine xv (ex_load (ev_at rfl) (by first | exact ld1 hS (kdT rfl) rfl | exact ldE1 (u := .int .i64 p.1) ((hS.rowH (v := pv)).2.2.1) hv hlt (kdT rfl) (by simpa using hg0) | exact ldE1 (u := byteV y) ((hS.rowH (v := pv)).2.2.1) hv hlt (kdT rfl) (by rw [Nat.mul_one, Nat.add_assoc, hg1, Nat.add_comm 1]; simp [hy]))) ?_; refine xv (ex_move (ev_at rfl)) ?_; (first | refine xv (ex_iaN (ev_at rfl) (ev_at rfl) (slT rfl) (szT rfl) (by first | assumption | exact IsSl.nil) (by omega)) ?_ | refine xv (ex_ia (ev_at rfl) (ev_at rfl) (slT rfl) (szT rfl) (by first | assumption | exact IsSl.nil) (by omega) (by omega)) ?_); (first | refine xv (ex_fa (ev_at rfl) (flT rfl)) ?_ | refine xv (ex_faE (ev_at rfl) (flT rfl) (by assumption) (by assumption)) ?_); refine xv (ex_load (ev_at rfl) (by first | exact ld1 hS (kdT rfl) rfl | exact ldE1 (u := .int .i64 p.1) ((hS.rowH (v := pv)).2.2.1) hv hlt (kdT rfl) (by simpa using hg0) | exact ldE1 (u := byteV y) ((hS.rowH (v := pv)).2.2.1) hv hlt (kdT rfl) (by rw [Nat.mul_one, Nat.add_assoc, hg1, Nat.add_comm 1]; simp [hy]))) ?_; refine xv (ex_move (ev_at rfl)) ?_; refine xv (ex_cmp (ev_at rfl) (ev_at rfl) (by first | exact eqlT (by omega) | exact eqlF (by omega) | rfl)) ?_; refine wl_nil ?_)
        | ((with_reducible apply wp_region_GS (id := 14) 16 (fun j => [0, 1, 2, 3, 4, 5, 6, 7, 8, 9, 10, 11, 12, 13, 14].contains j) mixed); rfl; exact hS; (clear hS; intro w hS); refine xp 0 rfl rfl (fun w => ex_move (ev_at rfl)) ?_; (first | refine xp 1 rfl rfl (fun w => ex_nilCheck (ev_at rfl)) ?_ | refine xp 1 rfl rfl (fun w => ex_nilCheckF (ev_at rfl)) ?_); (first | refine xp 2 rfl rfl (fun w => ex_fa (ev_at rfl) (flT rfl)) ?_ | refine xp 2 rfl rfl (fun w => ex_faE (ev_at rfl) (flT rfl) (by assumption) (by assumption)) ?_); refine xr 3 hS rfl rfl (fun w X hS => ex_load (ev_at rfl) (by first | exact ld1 hS (kdT rfl) rfl | exact ldE1 (u := .int .i64 p.1) ((hS.rowH (v := pv)).2.2.1) hv hlt (kdT rfl) (by simpa using hg0) | exact ldE1 (u := byteV y) ((hS.rowH (v := pv)).2.2.1) hv hlt (kdT rfl) (by rw [Nat.mul_one, Nat.add_assoc, hg1, Nat.add_comm 1]; simp [hy]))) ?_; refine xp 4 rfl rfl (fun w => ex_move (ev_at rfl)) ?_; refine xp 5 rfl rfl (fun w => ex_move (ev_at rfl)) ?_; (first | refine xp 6 rfl rfl (fun w => ex_iaN (ev_at rfl) (ev_at rfl) (slT rfl) (szT rfl) (by first | assumption | exact IsSl.nil) (by omega)) ?_ | refine xp 6 rfl rfl (fun w => ex_ia (ev_at rfl) (ev_at rfl) (slT rfl) (szT rfl) (by first | assumption | exact IsSl.nil) (by omega) (by omega)) ?_); (first | refine xp 7 rfl rfl (fun w => ex_fa (ev_at rfl) (flT rfl)) ?_ | refine xp 7 rfl rfl (fun w => ex_faE (ev_at rfl) (flT rfl) (by assumption) (by assumption)) ?_); (first | refine xp 8 rfl rfl (fun w => ex_iaA (ev_at rfl) (ev_at rfl) (arT rfl) (szT rfl) (by omega) (by omega)) ?_ | refine xp 8 rfl rfl (fun w => ex_iaAE (ev_at rfl) (ev_at rfl) (arT rfl) (szT rfl) (by assumption) (by omega) (by omega) (by omega)) ?_); refine xr 9 hS rfl rfl (fun w X hS => ex_load (ev_at rfl) (by first | exact ld1 hS (kdT rfl) rfl | exact ldE1 (u := .int .i64 p.1) ((hS.rowH (v := pv)).2.2.1) hv hlt (kdT rfl) (by simpa using hg0) | exact ldE1 (u := byteV y) ((hS.rowH (v := pv)).2.2.1) hv hlt (kdT rfl) (by rw [Nat.mul_one, Nat.add_assoc, hg1, Nat.add_comm 1]; simp [hy]))) ?_; refine xp 10 rfl rfl (fun w => ex_move (ev_at rfl)) ?_; refine xp 11 rfl rfl (fun w => ex_xor8 (ev_at rfl) (ev_at rfl)) ?_; (first | refine xp 12 rfl rfl (fun w => ex_iaN (ev_at rfl) (ev_at rfl) (slT rfl) (szT rfl) (by first | assumption | exact IsSl.nil) (by omega)) ?_ | refine xp 12 rfl rfl (fun w => ex_ia (ev_at rfl) (ev_at rfl) (slT rfl) (szT rfl) (by first | assumption | exact IsSl.nil) (by omega) (by omega)) ?_); (first | refine xp 13 rfl rfl (fun w => ex_fa (ev_at rfl) (flT rfl)) ?_ | refine xp 13 rfl rfl (fun w => ex_faE (ev_at rfl) (flT rfl) (by assumption) (by assumption)) ?_); (first | refine xp 14 rfl rfl (fun w => ex_iaA (ev_at rfl) (ev_at rfl) (arT rfl) (szT rfl) (by omega) (by omega)) ?_ | refine xp 14 rfl rfl (fun w => ex_iaAE (ev_at rfl) (ev_at rfl) (arT rfl) (szT rfl) (by assumption) (by omega) (by omega) (by omega)) ?_); refine wg_loud 15 (by decide +kernel) rfl rfl (wp_storeE1 (ev_at rfl) (ev_at rfl) hS (szT rfl) (by rw [hfl]; omega) rfl fun w hS => ⟨gsF rfl, wg_n ?_⟩); refine wg_end (by decide +kernel) ?_; (try simp only [lset, splice, sub, List.take_succ_cons, List.take_zero, List.drop_succ_cons, List.drop_zero, List.nil_append, List.cons_append, List.length_cons, List.length_nil, Nat.reduceAdd, Nat.zero_add, rep_zero] at hS))
        | ((with_reducible apply wp_region_plain (id := 15)); refine xv (ex_arith (ev_at rfl) (ev_const _ _) rfl (by first | exact IntWalk.i64_in _ (by omega) | rfl)) ?_; refine xv (ex_move (ev_at rfl)) ?_; refine wl_nil ?_)
        | ((fail_if_success (with_reducible apply wp_region_plain)); (fail_if_success (with_reducible apply wp_region_GS)); go_step))
      refine loopEnd rfl ⟨i + 1, rfl, by omega, ?_⟩ (by simp only [h47, nth, ivN]; omega)
      rw [Nat.mul_one, Nat.add_assoc, flatP_set hpo (xorAt p.2 at_.toNat c) _ (by omega) hpg (xorAt_map _ _ _ _ hy)] at hS
      rw [pendTo_succ hp1, show xorW k at_.toNat c p = (p.1, xorAt p.2 at_.toNat c) from by simp [xorW, hk2]]
      exact hS
    · repeat' (first
        | ((with_reducible apply wp_region_plain (id := 11)); refine xv (ex_cmp (ev_at rfl) (ev_at rfl) (by first | exact lssT (by omega) | exact lssF (by omega) | rfl)) ?_; refine wl_nil ?_)
        | ((with_reducible apply wp_region_plain (id := 12)); refine xv (ex_move (ev_at rfl)) ?_; refine xv (ex_assign (ev_at rfl)) ?_; refine wl_nil ?_)
        | ((with_reducible apply wp_region_plain (id := 13)); refine xv (ex_move (ev_at rfl)) ?_; (first | refine xv (ex_nilCheck (ev_at rfl)) ?_ | refine xv (ex_nilCheckF (ev_at rfl)) ?_); (first | refine xv (ex_fa (ev_at rfl) (flT rfl)) ?_ | refine xv (ex_faE (ev_at rfl) (flT rfl) (by assumption) (by assumption)) ?_); refine xv (ex_load (ev_at rfl) (by first | exact ld1 hS (kdT rfl) rfl | exact ldE1 (u := .int .i64 p.1) ((hS.rowH (v := pv)).2.2.1) hv hlt (kdT rfl) (by simpa using hg0))) ?_; refine xv (ex_move (ev_at rfl)) ?_; (first | refine xv (ex_iaN (ev_at rfl) (ev_at rfl) (slT rfl) (szT rfl) (by first | assumption | exact IsSl.nil) (by omega)) ?_ | refine xv (ex_ia (ev_at rfl) (ev_at rfl) (slT rfl) (szT rfl) (by first | assumption | exact IsSl.nil) (by omega) (by omega)) ?_); (first | refine xv (ex_fa (ev_at rfl) (flT rfl)) ?_ | refine xv (ex_faE (ev_at rfl) (flT rfl) (by assumption) (by assumption)) ?_); refine xv (ex_load (ev_at rfl) (by first | exact ld1 hS (kdT rfl) rfl | exact ldE1 (u := .int .i64 p.1) ((hS.rowH (v := pv)).2.2.1) hv hlt (kdT rfl) (by simpa using hg0))) ?_; refine xv (ex_move (ev_at rfl)) ?_; refine xv (ex_cmp (ev_at rfl) (ev_at rfl) (by first | exact eqlT (by omega) | exact eqlF (by omega) | rfl)) ?_; refine wl_nil ?_)
        | ((with_reducible apply wp_region_plain (id := 15)); refine xv (ex_arith (ev_at rfl) (ev_const _ _) rfl (by first | exact IntWalk.i64_in _ (by omega) | rfl)) ?_; refine xv (ex_move (ev_at rfl)) ?_; refine wl_nil ?_)
        | ((fail_if_success (with_reducible apply wp_region_plain)); (fail_if_success (with_reducible apply wp_region_GS)); go_step))
      refine loopEnd rfl ⟨i + 1, rfl, by omega, ?_⟩ (by simp only [h47, nth, ivN]; omega)
      rw [pendTo_succ hp1, show xorW k at_.toNat c p = p from by simp [xorW, hk2]]
      rw [set_eq hpg]
      exact hS
  · repeat' (first
      | ((with_reducible apply wp_region_plain (id := 11)); refine xv (ex_cmp (ev_at rfl) (ev_at rfl) (by first | exact lssT (by omega) | exact lssF (by omega) | rfl)) ?_; refine wl_nil ?_)
      | ((with_reducible apply wp_region_plain (id := 16)); refine xv (ex_assign (ev_const _ _)) ?_; refine wl_nil ?_)
      | ((fail_if_success (with_reducible apply wp_region_plain)); (fail_if_success (with_reducible apply wp_region_GS)); go_step))
    refine end1 (by first | exact .inl rfl | exact .inr rfl) rfl (ResL.rt rfl ResL.rn) ?_
    have hi : i = D.pend.length := by omega
    subst hi
    have e9 : pendTo D k at_.toNat c D.pend.length = D.pend.map (xorW k at_.toNat c) := by simp [pendTo]
    rw [e9] at hS
    refine ⟨rfl, disk_shut (D := { D with dur := put D.dur k (xorAt (dget D.dur k) at_.toNat c), pend := D.pend.map (xorW k at_.toNat c) }) (m := m) (pv := pv) ?_⟩
    rw [List.length_map]
    exact hS
end
end Go.Proofs.Try
