/- Go's stable sort over rows of elements of one type: contracts (2). -/
import Derived.Test.YtggkomlobfpapaaSrt1
namespace Go.Proofs.Try
open Go.RowKit Go.SL Go.SS
set_option maxRecDepth 100000
set_option linter.unusedSimpArgs false
set_option linter.unusedVariables false
section
variable {I : Gh} {L : List Ch} {α : Type} {enc : α → List Value} {lt : α → α → Bool}
theorem get4a {A X Y C : List α} {j : Nat} {x : α} (h : X[j]? = some x) : (A ++ X ++ Y ++ C)[A.length + j]? = some x := by
  have h1 := (List.getElem?_eq_some_iff.1 h).1
  rw [List.append_assoc, List.append_assoc, List.getElem?_append_right (by omega), Nat.add_sub_cancel_left, List.getElem?_append_left h1]; exact h
theorem get4b {A X Y C : List α} {j : Nat} {y : α} (h : Y[j]? = some y) : (A ++ X ++ Y ++ C)[A.length + X.length + j]? = some y := by
  have h1 := (List.getElem?_eq_some_iff.1 h).1
  rw [List.append_assoc, List.getElem?_append_right (by simp), List.length_append, Nat.add_sub_cancel_left, List.getElem?_append_left h1]; exact h
set_option maxHeartbeats 16000000 in
theorem sym1_ct (hO : Ord lt) (hE : ElT enc 34) (v : Value) (cf : FuncId) (cap : List Value) (hcb : callB Try.prog cf = true) (hc : CmpOk I L cf cap enc lt) (n : Nat) (hn2 : n ≤ 1099511627) (w : World) (a m b : Nat) (A Y C : List α) (x : α) (ha : a = A.length) (hm : m = a + 1) (hb : b = m + Y.length) (hsY : Srt lt Y) (hn : (A ++ [x] ++ Y ++ C).length = n)
    (hS : Sat w I (Row v 44 34 n (flatE enc (A ++ [x] ++ Y ++ C)) :: L)) :
    Calls Try.prog 59 #[v, .int .i64 a, .int .i64 m, .int .i64 b, .func (.func cf) #[] cap.toArray] w fun e w' => e = .returned (.tuple #[]) ∧ Sat w' I (Row v 44 34 n (flatE enc (A ++ mrg lt [x] Y ++ C)) :: L) := by
  have hvi := (hS.rowH (v := v)).1
  have hlen := hn
  simp only [List.length_append, List.length_cons, List.length_nil] at hlen
  go_enter Try.func59, Try.ntmps59
  repeat' (first
    | ((with_reducible apply wp_region_plain (id := 0)); refine xv (ex_move (ev_at rfl)) ?_; refine xv (ex_move (ev_at rfl)) ?_; refine xv (ex_arith (ev_at rfl) (ev_at rfl) rfl (by first | exact IntWalk.i64_in _ (by omega) | rfl)) ?_; refine xv (ex_cmp (ev_at rfl) (ev_const _ _) (by first | exact eqlT (by omega) | exact eqlF (by omega) | rfl)) ?_; refine wl_nil ?_)
    | ((with_reducible apply wp_region_plain (id := 1)); refine xv (ex_move (ev_at rfl)) ?_; refine xv (ex_assign (ev_at rfl)) ?_; refine wl_nil ?_)
    | ((with_reducible apply wp_region_plain (id := 2)); refine xv (ex_move (ev_at rfl)) ?_; refine xv (ex_assign (ev_at rfl)) ?_; refine wl_nil ?_)
    | ((fail_if_success (with_reducible apply wp_region_plain)); (fail_if_success (with_reducible apply wp_region_GS)); go_step))
  refine wp_loopM [false, false, false, false, false, false, false, false, false, false, true, true, true, false, false, false, false, false, false, false, false, false, false, false, false, false, false, false, false, false, false, true, true, true, true, true, true, true, true, true, true, true, true, true, true, true, true, true, true, true, true, true, true, true] (fun q f w => ∃ (i j : Nat), q = j - i ∧ f 10 = .int .i64 i ∧ f 11 = .int .i64 j ∧ m ≤ i ∧ i ≤ j ∧ j ≤ b ∧ (∀ k y, Y[k]? = some y → m + k < i → lt y x = true) ∧ (∀ k y, Y[k]? = some y → j ≤ m + k → lt y x = false) ∧ Sat w I (Row v 44 34 n (flatE enc (A ++ [x] ++ Y ++ C)) :: L)) rfl (b - m) ⟨m, b, rfl, rfl, rfl, by omega, by omega, by omega, fun k y h h2 => by omega, fun k y h h2 => by have := (List.getElem?_eq_some_iff.1 h).1; omega, hS⟩ ?_
  clear hS
  rintro q f w ⟨i, j, rfl, h10, h11, hmi, hij, hjb, hP1, hP2, hS⟩
  simp only [havoc, Nat.reduceAdd, h10, h11]
  by_cases hlt : i < j
  case pos =>
    have hh1 : i ≤ (i + j) / 2 := by omega
    have hh2 : (i + j) / 2 < j := by omega
    obtain ⟨h, hh⟩ : ∃ h, h = (i + j) / 2 := ⟨_, rfl⟩
    have hhI : (((i + j) / 2 : Nat) : Int) = (h : Int) := by rw [hh]
    rw [← hh] at hh1 hh2
    obtain ⟨y, hy⟩ : ∃ y, Y[h - m]? = some y := ⟨_, List.getElem?_eq_getElem (by omega)⟩
    have hyw : (A ++ [x] ++ Y ++ C)[h]? = some y := by
      have := get4b (A := A) (X := [x]) (C := C) hy
      rwa [show A.length + [x].length + (h - m) = h by simp; omega] at this
    have hxw : (A ++ [x] ++ Y ++ C)[a]? = some x := by
      have := get4a (A := A) (X := [x]) (Y := Y) (C := C) (j := 0) (x := x) rfl
      rwa [Nat.add_zero, ← ha] at this
    by_cases hxy : lt y x = true
    · repeat' (first
        | ((with_reducible apply wp_region_plain (id := 0)); refine xv (ex_move (ev_at rfl)) ?_; refine xv (ex_move (ev_at rfl)) ?_; refine xv (ex_arith (ev_at rfl) (ev_at rfl) rfl (by first | exact IntWalk.i64_in _ (by omega) | rfl)) ?_; refine xv (ex_cmp (ev_at rfl) (ev_const _ _) (by first | exact eqlT (by omega) | exact eqlF (by omega) | rfl)) ?_; refine wl_nil ?_)
        | ((with_reducible apply wp_region_plain (id := 3)); refine xv (ex_move (ev_at rfl)) ?_; refine xv (ex_move (ev_at rfl)) ?_; refine xv (ex_cmp (ev_at rfl) (ev_at rfl) (by first | exact lssT (by omega) | exact lssF (by omega) | rfl)) ?_; refine wl_nil ?_)
        | ((with_reducible apply wp_region_plain (id := 4)); refine xv (ex_move (ev_at rfl)) ?_; refine xv (ex_move (ev_at rfl)) ?_; refine xv (ex_arith (s := ((i + j : Nat) : Int)) (ev_at rfl) (ev_at rfl) rfl (by rw [IntWalk.i64_in _ (by omega)]; omega)) ?_; refine xv (ex_convII (ev_at rfl) (inT rfl) (kdT rfl) (by first | exact IntWalk.u64_in _ (by omega) | rfl)) ?_; refine xv (ex_shrI (s := 1) (ev_at rfl) (ev_const _ _) (by first | decide | (simp only [IntKind.bits]; omega))) ?_; refine xv (ex_convII (s := (h : Int)) (ev_at rfl) (inT rfl) (kdT rfl) (by rw [IntWalk.i64_in _ (by omega)]; omega)) ?_; refine xv (ex_assign (ev_at rfl)) ?_; refine wl_nil ?_)
        | ((with_reducible apply wp_region_GS (id := 5) 11 (fun j => [0, 1, 2, 3, 4, 5, 6, 7, 8, 9, 10].contains j) mixed); rfl; exact hS; (clear hS; intro w hS); refine xp 0 rfl rfl (fun w => ex_move (ev_at rfl)) ?_; refine xp 1 rfl rfl (fun w => ex_move (ev_at rfl)) ?_; refine xp 2 rfl rfl (fun w => ex_move (ev_at rfl)) ?_; (first | refine xp 3 rfl rfl (fun w => ex_iaN (ev_at rfl) (ev_at rfl) (slT rfl) (szT rfl) (by first | assumption | exact IsSl.nil) (by omega)) ?_ | refine xp 3 rfl rfl (fun w => ex_ia (ev_at rfl) (ev_at rfl) (slT rfl) (szT rfl) (by first | assumption | exact IsSl.nil) (by omega) (by omega)) ?_); refine xr 4 hS rfl rfl (fun w X hS => ex_load (ev_at rfl) (ldEl hE ((hS.rowH (v := v)).2.2.1) hvi (i := h) (by omega) hyw (kdT rfl) (szT rfl))) ?_; refine xp 5 rfl rfl (fun w => ex_move (ev_at rfl)) ?_; refine xp 6 rfl rfl (fun w => ex_move (ev_at rfl)) ?_; (first | refine xp 7 rfl rfl (fun w => ex_iaN (ev_at rfl) (ev_at rfl) (slT rfl) (szT rfl) (by first | assumption | exact IsSl.nil) (by omega)) ?_ | refine xp 7 rfl rfl (fun w => ex_ia (ev_at rfl) (ev_at rfl) (slT rfl) (szT rfl) (by first | assumption | exact IsSl.nil) (by omega) (by omega)) ?_); refine xr 8 hS rfl rfl (fun w X hS => ex_load (ev_at rfl) (ldEl hE ((hS.rowH (v := v)).2.2.1) hvi (i := a) (by omega) hxw (kdT rfl) (szT rfl))) ?_; refine wg_loud 9 (by decide +kernel) rfl rfl (wp_callV (ev_at rfl) hcb (EvL.c (ev_at rfl) (EvL.c (ev_at rfl) EvL.n)) ?_); refine (hc y x w [_] hS).mono ?_; rintro e w ⟨z, rfl, hz, hS⟩; have hz : z < 0 := hz.2 hxy; have hS : Sat w I (Row v 44 34 n (flatE enc (A ++ [x] ++ Y ++ C)) :: L) := hS; refine ⟨_, rfl, ⟨gsT hS, wg_p (by simp only [lset] <;> rfl) ?_⟩⟩; refine xp 10 rfl rfl (fun w => ex_cmp (ev_at rfl) (ev_const _ _) (by first | exact lssT (by omega) | exact lssF (by omega) | rfl)) ?_; refine wg_end (by decide +kernel) ?_)
        | ((with_reducible apply wp_region_plain (id := 6)); refine xv (ex_move (ev_at rfl)) ?_; refine xv (ex_arith (s := ((h + 1 : Nat) : Int)) (ev_at rfl) (ev_const _ _) rfl (by rw [IntWalk.i64_in _ (by omega)]; omega)) ?_; refine xv (ex_assign (ev_at rfl)) ?_; refine wl_nil ?_)
        | ((with_reducible apply wp_region_plain (id := 7)); refine xv (ex_move (ev_at rfl)) ?_; refine xv (ex_assign (ev_at rfl)) ?_; refine wl_nil ?_)
        | ((fail_if_success (with_reducible apply wp_region_plain)); (fail_if_success (with_reducible apply wp_region_GS)); go_step))
      exact loopEndM rfl (j - (h + 1)) ⟨h + 1, j, rfl, rfl, rfl, by omega, by omega, by omega, fun k z hz h2 => hO.lt_of_le_of_lt (srt_le hO hsY hz hy (by omega)) hxy, hP2, hS⟩ (by omega)
    · have hxy' : lt y x = false := by simpa using hxy
      repeat' (first
        | ((with_reducible apply wp_region_plain (id := 0)); refine xv (ex_move (ev_at rfl)) ?_; refine xv (ex_move (ev_at rfl)) ?_; refine xv (ex_arith (ev_at rfl) (ev_at rfl) rfl (by first | exact IntWalk.i64_in _ (by omega) | rfl)) ?_; refine xv (ex_cmp (ev_at rfl) (ev_const _ _) (by first | exact eqlT (by omega) | exact eqlF (by omega) | rfl)) ?_; refine wl_nil ?_)
        | ((with_reducible apply wp_region_plain (id := 3)); refine xv (ex_move (ev_at rfl)) ?_; refine xv (ex_move (ev_at rfl)) ?_; refine xv (ex_cmp (ev_at rfl) (ev_at rfl) (by first | exact lssT (by omega) | exact lssF (by omega) | rfl)) ?_; refine wl_nil ?_)
        | ((with_reducible apply wp_region_plain (id := 4)); refine xv (ex_move (ev_at rfl)) ?_; refine xv (ex_move (ev_at rfl)) ?_; refine xv (ex_arith (s := ((i + j : Nat) : Int)) (ev_at rfl) (ev_at rfl) rfl (by rw [IntWalk.i64_in _ (by omega)]; omega)) ?_; refine xv (ex_convII (ev_at rfl) (inT rfl) (kdT rfl) (by first | exact IntWalk.u64_in _ (by omega) | rfl)) ?_; refine xv (ex_shrI (s := 1) (ev_at rfl) (ev_const _ _) (by first | decide | (simp only [IntKind.bits]; omega))) ?_; refine xv (ex_convII (s := (h : Int)) (ev_at rfl) (inT rfl) (kdT rfl) (by rw [IntWalk.i64_in _ (by omega)]; omega)) ?_; refine xv (ex_assign (ev_at rfl)) ?_; refine wl_nil ?_)
        | ((with_reducible apply wp_region_GS (id := 5) 11 (fun j => [0, 1, 2, 3, 4, 5, 6, 7, 8, 9, 10].contains j) mixed); rfl; exact hS; (clear hS; intro w hS); refine xp 0 rfl rfl (fun w => ex_move (ev_at rfl)) ?_; refine xp 1 rfl rfl (fun w => ex_move (ev_at rfl)) ?_; refine xp 2 rfl rfl (fun w => ex_move (ev_at rfl)) ?_; (first | refine xp 3 rfl rfl (fun w => ex_iaN (ev_at rfl) (ev_at rfl) (slT rfl) (szT rfl) (by first | assumption | exact IsSl.nil) (by omega)) ?_ | refine xp 3 rfl rfl (fun w => ex_ia (ev_at rfl) (ev_at rfl) (slT rfl) (szT rfl) (by first | assumption | exact IsSl.nil) (by omega) (by omega)) ?_); refine xr 4 hS rfl rfl (fun w X hS => ex_load (ev_at rfl) (ldEl hE ((hS.rowH (v := v)).2.2.1) hvi (i := h) (by omega) hyw (kdT rfl) (szT rfl))) ?_; refine xp 5 rfl rfl (fun w => ex_move (ev_at rfl)) ?_; refine xp 6 rfl rfl (fun w => ex_move (ev_at rfl)) ?_; (first | refine xp 7 rfl rfl (fun w => ex_iaN (ev_at rfl) (ev_at rfl) (slT rfl) (szT rfl) (by first | assumption | exact IsSl.nil) (by omega)) ?_ | refine xp 7 rfl rfl (fun w => ex_ia (ev_at rfl) (ev_at rfl) (slT rfl) (szT rfl) (by first | assumption | exact IsSl.nil) (by omega) (by omega)) ?_); refine xr 8 hS rfl rfl (fun w X hS => ex_load (ev_at rfl) (ldEl hE ((hS.rowH (v := v)).2.2.1) hvi (i := a) (by omega) hxw (kdT rfl) (szT rfl))) ?_; refine wg_loud 9 (by decide +kernel) rfl rfl (wp_callV (ev_at rfl) hcb (EvL.c (ev_at rfl) (EvL.c (ev_at rfl) EvL.n)) ?_); refine (hc y x w [_] hS).mono ?_; rintro e w ⟨z, rfl, hz, hS⟩; have hz : 0 ≤ z := Int.not_lt.1 (fun h => hxy (hz.1 h)); have hS : Sat w I (Row v 44 34 n (flatE enc (A ++ [x] ++ Y ++ C)) :: L) := hS; refine ⟨_, rfl, ⟨gsT hS, wg_p (by simp only [lset] <;> rfl) ?_⟩⟩; refine xp 10 rfl rfl (fun w => ex_cmp (ev_at rfl) (ev_const _ _) (by first | exact lssT (by omega) | exact lssF (by omega) | rfl)) ?_; refine wg_end (by decide +kernel) ?_)
        | ((with_reducible apply wp_region_plain (id := 6)); refine xv (ex_move (ev_at rfl)) ?_; refine xv (ex_arith (ev_at rfl) (ev_const _ _) rfl (by first | exact IntWalk.i64_in _ (by omega) | rfl)) ?_; refine xv (ex_assign (ev_at rfl)) ?_; refine wl_nil ?_)
        | ((with_reducible apply wp_region_plain (id := 7)); refine xv (ex_move (ev_at rfl)) ?_; refine xv (ex_assign (ev_at rfl)) ?_; refine wl_nil ?_)
        | ((fail_if_success (with_reducible apply wp_region_plain)); (fail_if_success (with_reducible apply wp_region_GS)); go_step))
      exact loopEndM rfl (h - i) ⟨i, h, rfl, rfl, rfl, by omega, by omega, by omega, hP1, fun k z hz h2 => hO.trans x y z hxy' (srt_le hO hsY hy hz (by omega)), hS⟩ (by omega)
  have hij2 : i = j := by omega
  subst hij2
  obtain ⟨Y1, Y2, hYY, hY1⟩ : ∃ Y1 Y2, Y = Y1 ++ Y2 ∧ Y1.length = i - m := ⟨Y.take (i - m), Y.drop (i - m), (List.take_append_drop _ _).symm, by simp; omega⟩
  have hmg : mrg lt [x] Y = Y1 ++ x :: Y2 := by
    rw [hYY]
    refine mrg_one (fun y hy => ?_) (fun y hy => ?_)
    · obtain ⟨k, hk⟩ := List.getElem?_of_mem hy
      have h1 := (List.getElem?_eq_some_iff.1 hk).1
      exact hP1 k y (by rw [hYY, List.getElem?_append_left h1]; exact hk) (by omega)
    · obtain ⟨k, hk⟩ := List.getElem?_of_mem hy
      exact hP2 (Y1.length + k) y (by rw [hYY, List.getElem?_append_right (by omega), Nat.add_sub_cancel_left]; exact hk) (by omega)
  rw [hYY] at hS hlen hb
  simp only [List.length_append] at hlen hb
  clear hP1 hP2 hn
  repeat' (first
    | ((with_reducible apply wp_region_plain (id := 0)); refine xv (ex_move (ev_at rfl)) ?_; refine xv (ex_move (ev_at rfl)) ?_; refine xv (ex_arith (ev_at rfl) (ev_at rfl) rfl (by first | exact IntWalk.i64_in _ (by omega) | rfl)) ?_; refine xv (ex_cmp (ev_at rfl) (ev_const _ _) (by first | exact eqlT (by omega) | exact eqlF (by omega) | rfl)) ?_; refine wl_nil ?_)
    | ((with_reducible apply wp_region_plain (id := 3)); refine xv (ex_move (ev_at rfl)) ?_; refine xv (ex_move (ev_at rfl)) ?_; refine xv (ex_cmp (ev_at rfl) (ev_at rfl) (by first | exact lssT (by omega) | exact lssF (by omega) | rfl)) ?_; refine wl_nil ?_)
    | ((with_reducible apply wp_region_plain (id := 8)); refine xv (ex_move (ev_at rfl)) ?_; refine xv (ex_assign (ev_at rfl)) ?_; refine wl_nil ?_)
    | ((fail_if_success (with_reducible apply wp_region_plain)); (fail_if_success (with_reducible apply wp_region_GS)); go_step))
  refine wp_loopM [false, false, false, false, false, false, false, false, false, false, false, false, false, true, false, false, false, false, false, false, false, false, false, false, false, false, false, false, false, false, false, false, false, false, false, false, false, false, false, false, false, false, false, false, false, false, false, false, false, false, false, false, false, false, false, true, true, true, true, true, true, true, true, true, true, true, true, true, true, true, true, true, true, true, true, true, true] (fun q f w => ∃ (Z1 Z2 : List α), q = Z2.length ∧ f 13 = .int .i64 ((a + Z1.length : Nat) : Int) ∧ Z1 ++ Z2 = Y1 ∧ Sat w I (Row v 44 34 n (flatE enc (A ++ Z1 ++ x :: (Z2 ++ (Y2 ++ C)))) :: L)) rfl Y1.length ⟨[], Y1, rfl, rfl, rfl, by simpa only [List.append_assoc, List.cons_append, List.nil_append, List.append_nil] using hS⟩ ?_
  clear hS
  rintro q f w ⟨Z1, Z2, rfl, h13, hZ, hS⟩
  simp only [havoc, Nat.reduceAdd, h13]
  have hZl : Z1.length + Z2.length = Y1.length := by rw [← hZ]; simp
  cases Z2 with
  | nil =>
    rw [List.append_nil] at hZ
    subst hZ
    repeat' (first
      | ((with_reducible apply wp_region_plain (id := 0)); refine xv (ex_move (ev_at rfl)) ?_; refine xv (ex_move (ev_at rfl)) ?_; refine xv (ex_arith (ev_at rfl) (ev_at rfl) rfl (by first | exact IntWalk.i64_in _ (by omega) | rfl)) ?_; refine xv (ex_cmp (ev_at rfl) (ev_const _ _) (by first | exact eqlT (by omega) | exact eqlF (by omega) | rfl)) ?_; refine wl_nil ?_)
      | ((with_reducible apply wp_region_plain (id := 9)); refine xv (ex_move (ev_at rfl)) ?_; refine xv (ex_move (ev_at rfl)) ?_; refine xv (ex_arith (s := ((a + Z1.length : Nat) : Int)) (ev_at rfl) (ev_const _ _) rfl (by rw [IntWalk.i64_in _ (by omega)]; omega)) ?_; refine xv (ex_cmp (ev_at rfl) (ev_at rfl) (by first | exact lssT (by omega) | exact lssF (by omega) | rfl)) ?_; refine wl_nil ?_)
      | ((fail_if_success (with_reducible apply wp_region_plain)); (fail_if_success (with_reducible apply wp_region_GS)); go_step))
    refine endN (by first | exact .inl rfl | exact .inr rfl) rfl ResL.rn rfl ?_
    exact ⟨rfl, by rw [hmg]; simpa only [List.append_assoc, List.cons_append, List.nil_append] using hS⟩
  | cons y Z2 =>
    simp only [List.length_cons] at hZl
    have hAZ : (A ++ Z1).length = a + Z1.length := by simp [ha]
    have hx1 : (A ++ Z1 ++ x :: y :: (Z2 ++ (Y2 ++ C)))[a + Z1.length]? = some x := by rw [← hAZ]; exact midGet _ _ _
    have hy1 : (A ++ Z1 ++ x :: y :: (Z2 ++ (Y2 ++ C)))[a + Z1.length + 1]? = some y := by rw [← hAZ]; exact midGet1 _ _ _ _
    have hsw := swap_adj2 (A ++ Z1) (Z2 ++ (Y2 ++ C)) x y
    rw [hAZ] at hsw
    have hlw : (A ++ Z1 ++ x :: y :: (Z2 ++ (Y2 ++ C))).length = n := by simp only [List.length_append, List.length_cons]; omega
    have hS : Sat w I (Row v 44 34 n (flatE enc (A ++ Z1 ++ x :: y :: (Z2 ++ (Y2 ++ C)))) :: L) := hS
    generalize A ++ Z1 ++ x :: y :: (Z2 ++ (Y2 ++ C)) = es at hS hx1 hy1 hsw hlw
    repeat' (first
      | ((with_reducible apply wp_region_plain (id := 0)); refine xv (ex_move (ev_at rfl)) ?_; refine xv (ex_move (ev_at rfl)) ?_; refine xv (ex_arith (ev_at rfl) (ev_at rfl) rfl (by first | exact IntWalk.i64_in _ (by omega) | rfl)) ?_; refine xv (ex_cmp (ev_at rfl) (ev_const _ _) (by first | exact eqlT (by omega) | exact eqlF (by omega) | rfl)) ?_; refine wl_nil ?_)
      | ((with_reducible apply wp_region_plain (id := 9)); refine xv (ex_move (ev_at rfl)) ?_; refine xv (ex_move (ev_at rfl)) ?_; refine xv (ex_arith (ev_at rfl) (ev_const _ _) rfl (by first | exact IntWalk.i64_in _ (by omega) | rfl)) ?_; refine xv (ex_cmp (ev_at rfl) (ev_at rfl) (by first | exact lssT (by omega) | exact lssF (by omega) | rfl)) ?_; refine wl_nil ?_)
      | ((with_reducible apply wp_region_GS (id := 11) 18 (fun j => [0, 1, 2, 3, 4, 5, 6, 7, 8, 9, 10, 11, 12, 13, 14, 16].contains j) mixed); rfl; exact hS; (clear hS; intro w hS); refine xp 0 rfl rfl (fun w => ex_move (ev_at rfl)) ?_; refine xp 1 rfl rfl (fun w => ex_move (ev_at rfl)) ?_; refine xp 2 rfl rfl (fun w => ex_move (ev_at rfl)) ?_; refine xp 3 rfl rfl (fun w => ex_move (ev_at rfl)) ?_; refine xp 4 rfl rfl (fun w => ex_arith (s := ((a + Z1.length + 1 : Nat) : Int)) (ev_at rfl) (ev_const _ _) rfl (by rw [IntWalk.i64_in _ (by omega)]; omega)) ?_; refine xp 5 rfl rfl (fun w => ex_move (ev_at rfl)) ?_; refine xp 6 rfl rfl (fun w => ex_move (ev_at rfl)) ?_; refine xp 7 rfl rfl (fun w => ex_arith (s := ((a + Z1.length + 1 : Nat) : Int)) (ev_at rfl) (ev_const _ _) rfl (by rw [IntWalk.i64_in _ (by omega)]; omega)) ?_; (first | refine xp 8 rfl rfl (fun w => ex_iaN (ev_at rfl) (ev_at rfl) (slT rfl) (szT rfl) (by first | assumption | exact IsSl.nil) (by omega)) ?_ | refine xp 8 rfl rfl (fun w => ex_ia (ev_at rfl) (ev_at rfl) (slT rfl) (szT rfl) (by first | assumption | exact IsSl.nil) (by omega) (by omega)) ?_); refine xr 9 hS rfl rfl (fun w X hS => ex_load (ev_at rfl) (ldEl hE ((hS.rowH (v := v)).2.2.1) hvi (i := a + Z1.length + 1) (by omega) hy1 (kdT rfl) (szT rfl))) ?_; refine xp 10 rfl rfl (fun w => ex_move (ev_at rfl)) ?_; refine xp 11 rfl rfl (fun w => ex_move (ev_at rfl)) ?_; (first | refine xp 12 rfl rfl (fun w => ex_iaN (ev_at rfl) (ev_at rfl) (slT rfl) (szT rfl) (by first | assumption | exact IsSl.nil) (by omega)) ?_ | refine xp 12 rfl rfl (fun w => ex_ia (ev_at rfl) (ev_at rfl) (slT rfl) (szT rfl) (by first | assumption | exact IsSl.nil) (by omega) (by omega)) ?_); refine xr 13 hS rfl rfl (fun w X hS => ex_load (ev_at rfl) (ldEl hE ((hS.rowH (v := v)).2.2.1) hvi (i := a + Z1.length) (by omega) hx1 (kdT rfl) (szT rfl))) ?_; (first | refine xp 14 rfl rfl (fun w => ex_iaN (ev_at rfl) (ev_at rfl) (slT rfl) (szT rfl) (by first | assumption | exact IsSl.nil) (by omega)) ?_ | refine xp 14 rfl rfl (fun w => ex_ia (ev_at rfl) (ev_at rfl) (slT rfl) (szT rfl) (by first | assumption | exact IsSl.nil) (by omega) (by omega)) ?_); refine wg_loud 15 (by decide +kernel) rfl rfl (wp_storeEl hE (i := a + Z1.length) (x := y) (ev_at rfl) (ev_at rfl) hS (szT rfl) hlw (by omega) fun w hS => ⟨gsF rfl, wg_n ?_⟩); (first | refine xp 16 rfl rfl (fun w => ex_iaN (ev_at rfl) (ev_at rfl) (slT rfl) (szT rfl) (by first | assumption | exact IsSl.nil) (by omega)) ?_ | refine xp 16 rfl rfl (fun w => ex_ia (ev_at rfl) (ev_at rfl) (slT rfl) (szT rfl) (by first | assumption | exact IsSl.nil) (by omega) (by omega)) ?_); refine wg_loud 17 (by decide +kernel) rfl rfl (wp_storeEl hE (i := a + Z1.length + 1) (x := x) (ev_at rfl) (ev_at rfl) hS (szT rfl) (by rw [List.length_set]; exact hlw) (by omega) fun w hS => ⟨gsF rfl, wg_n ?_⟩); refine wg_end (by decide +kernel) ?_; (try simp only [lset, splice, sub, List.take_succ_cons, List.take_zero, List.drop_succ_cons, List.drop_zero, List.nil_append, List.cons_append, List.length_cons, List.length_nil, Nat.reduceAdd, Nat.zero_add, rep_zero] at hS))
      | ((with_reducible apply wp_region_plain (id := 10)); refine xv (ex_move (ev_at rfl)) ?_; refine xv (ex_arith (s := ((a + (Z1.length + 1) : Nat) : Int)) (ev_at rfl) (ev_const _ _) rfl (by rw [IntWalk.i64_in _ (by omega)]; omega)) ?_; refine xv (ex_assign (ev_at rfl)) ?_; refine wl_nil ?_)
      | ((fail_if_success (with_reducible apply wp_region_plain)); (fail_if_success (with_reducible apply wp_region_GS)); go_step))
    rw [hsw] at hS
    exact loopEndM rfl Z2.length ⟨Z1 ++ [y], Z2, rfl, (by rw [List.length_append]; rfl), by rw [← hZ]; simp, by simpa only [List.append_assoc, List.cons_append, List.nil_append] using hS⟩ (by simp)
set_option maxHeartbeats 16000000 in
theorem sym2_ct (hO : Ord lt) (hE : ElT enc 34) (v : Value) (cf : FuncId) (cap : List Value) (hcb : callB Try.prog cf = true) (hc : CmpOk I L cf cap enc lt) (n : Nat) (hn2 : n ≤ 1099511627) (w : World) (a m b : Nat) (A X C : List α) (y : α) (ha : a = A.length) (hm : m = a + X.length) (hb : b = m + 1) (hX1 : X.length ≠ 1) (hsX : Srt lt X) (hn : (A ++ X ++ [y] ++ C).length = n)
    (hS : Sat w I (Row v 44 34 n (flatE enc (A ++ X ++ [y] ++ C)) :: L)) :
    Calls Try.prog 59 #[v, .int .i64 a, .int .i64 m, .int .i64 b, .func (.func cf) #[] cap.toArray] w fun e w' => e = .returned (.tuple #[]) ∧ Sat w' I (Row v 44 34 n (flatE enc (A ++ mrg lt X [y] ++ C)) :: L) := by
  have hvi := (hS.rowH (v := v)).1
  have hlen := hn
  simp only [List.length_append, List.length_cons, List.length_nil] at hlen
  go_enter Try.func59, Try.ntmps59
  repeat' (first
    | ((with_reducible apply wp_region_plain (id := 0)); refine xv (ex_move (ev_at rfl)) ?_; refine xv (ex_move (ev_at rfl)) ?_; refine xv (ex_arith (ev_at rfl) (ev_at rfl) rfl (by first | exact IntWalk.i64_in _ (by omega) | rfl)) ?_; refine xv (ex_cmp (ev_at rfl) (ev_const _ _) (by first | exact eqlT (by omega) | exact eqlF (by omega) | rfl)) ?_; refine wl_nil ?_)
    | ((with_reducible apply wp_region_plain (id := 12)); refine xv (ex_move (ev_at rfl)) ?_; refine xv (ex_move (ev_at rfl)) ?_; refine xv (ex_arith (ev_at rfl) (ev_at rfl) rfl (by first | exact IntWalk.i64_in _ (by omega) | rfl)) ?_; refine xv (ex_cmp (ev_at rfl) (ev_const _ _) (by first | exact eqlT (by omega) | exact eqlF (by omega) | rfl)) ?_; refine wl_nil ?_)
    | ((with_reducible apply wp_region_plain (id := 13)); refine xv (ex_move (ev_at rfl)) ?_; refine xv (ex_assign (ev_at rfl)) ?_; refine wl_nil ?_)
    | ((with_reducible apply wp_region_plain (id := 14)); refine xv (ex_move (ev_at rfl)) ?_; refine xv (ex_assign (ev_at rfl)) ?_; refine wl_nil ?_)
    | ((fail_if_success (with_reducible apply wp_region_plain)); (fail_if_success (with_reducible apply wp_region_GS)); go_step))
  refine wp_loopM [false, false, false, false, false, false, false, false, false, false, false, false, false, false, true, true, true, false, false, false, false, false, false, false, false, false, false, false, false, false, false, false, false, false, false, false, false, false, false, false, false, false, false, false, false, false, false, false, false, false, false, false, false, false, false, false, false, false, false, false, false, false, false, false, false, false, false, false, false, false, false, false, false, false, false, false, false, false, false, false, false, false, false, true, true, true, true, true, true, true, true, true, true, true, true, true, true, true, true, true, true, true, true, true, true, true, true] (fun q f w => ∃ (i j : Nat), q = j - i ∧ f 14 = .int .i64 i ∧ f 15 = .int .i64 j ∧ a ≤ i ∧ i ≤ j ∧ j ≤ m ∧ (∀ k x, X[k]? = some x → a + k < i → lt y x = false) ∧ (∀ k x, X[k]? = some x → j ≤ a + k → lt y x = true) ∧ Sat w I (Row v 44 34 n (flatE enc (A ++ X ++ [y] ++ C)) :: L)) rfl (m - a) ⟨a, m, rfl, rfl, rfl, by omega, by omega, by omega, fun k y h h2 => by omega, fun k y h h2 => by have := (List.getElem?_eq_some_iff.1 h).1; omega, hS⟩ ?_
  clear hS
  rintro q f w ⟨i, j, rfl, h10, h11, hmi, hij, hjb, hP1, hP2, hS⟩
  simp only [havoc, Nat.reduceAdd, h10, h11]
  by_cases hlt : i < j
  case pos =>
    have hh1 : i ≤ (i + j) / 2 := by omega
    have hh2 : (i + j) / 2 < j := by omega
    obtain ⟨h, hh⟩ : ∃ h, h = (i + j) / 2 := ⟨_, rfl⟩
    rw [← hh] at hh1 hh2
    obtain ⟨x, hx⟩ : ∃ x, X[h - a]? = some x := ⟨_, List.getElem?_eq_getElem (by omega)⟩
    have hyw : (A ++ X ++ [y] ++ C)[m]? = some y := by
      have := get4b (A := A) (X := X) (Y := [y]) (C := C) (j := 0) (y := y) rfl
      rwa [show A.length + X.length + 0 = m by omega] at this
    have hxw : (A ++ X ++ [y] ++ C)[h]? = some x := by
      have := get4a (A := A) (Y := [y]) (C := C) hx
      rwa [show A.length + (h - a) = h by omega] at this
    by_cases hxy : lt y x = true
    · repeat' (first
        | ((with_reducible apply wp_region_plain (id := 0)); refine xv (ex_move (ev_at rfl)) ?_; refine xv (ex_move (ev_at rfl)) ?_; refine xv (ex_arith (ev_at rfl) (ev_at rfl) rfl (by first | exact IntWalk.i64_in _ (by omega) | rfl)) ?_; refine xv (ex_cmp (ev_at rfl) (ev_const _ _) (by first | exact eqlT (by omega) | exact eqlF (by omega) | rfl)) ?_; refine wl_nil ?_)
        | ((with_reducible apply wp_region_plain (id := 15)); refine xv (ex_move (ev_at rfl)) ?_; refine xv (ex_move (ev_at rfl)) ?_; refine xv (ex_cmp (ev_at rfl) (ev_at rfl) (by first | exact lssT (by omega) | exact lssF (by omega) | rfl)) ?_; refine wl_nil ?_)
        | ((with_reducible apply wp_region_plain (id := 16)); refine xv (ex_move (ev_at rfl)) ?_; refine xv (ex_move (ev_at rfl)) ?_; refine xv (ex_arith (s := ((i + j : Nat) : Int)) (ev_at rfl) (ev_at rfl) rfl (by rw [IntWalk.i64_in _ (by omega)]; omega)) ?_; refine xv (ex_convII (ev_at rfl) (inT rfl) (kdT rfl) (by first | exact IntWalk.u64_in _ (by omega) | rfl)) ?_; refine xv (ex_shrI (s := 1) (ev_at rfl) (ev_const _ _) (by first | decide | (simp only [IntKind.bits]; omega))) ?_; refine xv (ex_convII (s := (h : Int)) (ev_at rfl) (inT rfl) (kdT rfl) (by rw [IntWalk.i64_in _ (by omega)]; omega)) ?_; refine xv (ex_assign (ev_at rfl)) ?_; refine wl_nil ?_)
        | ((with_reducible apply wp_region_GS (id := 17) 12 (fun j => [0, 1, 2, 3, 4, 5, 6, 7, 8, 9, 10, 11].contains j) mixed); rfl; exact hS; (clear hS; intro w hS); refine xp 0 rfl rfl (fun w => ex_move (ev_at rfl)) ?_; refine xp 1 rfl rfl (fun w => ex_move (ev_at rfl)) ?_; refine xp 2 rfl rfl (fun w => ex_move (ev_at rfl)) ?_; (first | refine xp 3 rfl rfl (fun w => ex_iaN (ev_at rfl) (ev_at rfl) (slT rfl) (szT rfl) (by first | assumption | exact IsSl.nil) (by omega)) ?_ | refine xp 3 rfl rfl (fun w => ex_ia (ev_at rfl) (ev_at rfl) (slT rfl) (szT rfl) (by first | assumption | exact IsSl.nil) (by omega) (by omega)) ?_); refine xr 4 hS rfl rfl (fun w X hS => ex_load (ev_at rfl) (ldEl hE ((hS.rowH (v := v)).2.2.1) hvi (i := m) (by omega) hyw (kdT rfl) (szT rfl))) ?_; refine xp 5 rfl rfl (fun w => ex_move (ev_at rfl)) ?_; refine xp 6 rfl rfl (fun w => ex_move (ev_at rfl)) ?_; (first | refine xp 7 rfl rfl (fun w => ex_iaN (ev_at rfl) (ev_at rfl) (slT rfl) (szT rfl) (by first | assumption | exact IsSl.nil) (by omega)) ?_ | refine xp 7 rfl rfl (fun w => ex_ia (ev_at rfl) (ev_at rfl) (slT rfl) (szT rfl) (by first | assumption | exact IsSl.nil) (by omega) (by omega)) ?_); refine xr 8 hS rfl rfl (fun w X hS => ex_load (ev_at rfl) (ldEl hE ((hS.rowH (v := v)).2.2.1) hvi (i := h) (by omega) hxw (kdT rfl) (szT rfl))) ?_; refine wg_loud 9 (by decide +kernel) rfl rfl (wp_callV (ev_at rfl) hcb (EvL.c (ev_at rfl) (EvL.c (ev_at rfl) EvL.n)) ?_); refine (hc y x w [_] hS).mono ?_; rintro e w ⟨z, rfl, hz, hS⟩; have hz : z < 0 := hz.2 hxy; have hS : Sat w I (Row v 44 34 n (flatE enc (A ++ X ++ [y] ++ C)) :: L) := hS; refine ⟨_, rfl, ⟨gsT hS, wg_p (by simp only [lset] <;> rfl) ?_⟩⟩; refine xp 10 rfl rfl (fun w => ex_cmp (ev_at rfl) (ev_const _ _) (by first | exact lssT (by omega) | exact lssF (by omega) | rfl)) ?_; refine xp 11 rfl rfl (fun w => ex_not (ev_at rfl)) ?_; refine wg_end (by decide +kernel) ?_)
        | ((with_reducible apply wp_region_plain (id := 18)); refine xv (ex_move (ev_at rfl)) ?_; refine xv (ex_arith (ev_at rfl) (ev_const _ _) rfl (by first | exact IntWalk.i64_in _ (by omega) | rfl)) ?_; refine xv (ex_assign (ev_at rfl)) ?_; refine wl_nil ?_)
        | ((with_reducible apply wp_region_plain (id := 19)); refine xv (ex_move (ev_at rfl)) ?_; refine xv (ex_assign (ev_at rfl)) ?_; refine wl_nil ?_)
        | ((fail_if_success (with_reducible apply wp_region_plain)); (fail_if_success (with_reducible apply wp_region_GS)); go_step))
      exact loopEndM rfl (h - i) ⟨i, h, rfl, rfl, rfl, by omega, by omega, by omega, hP1, fun k z hz h2 => hO.lt_of_lt_of_le hxy (srt_le hO hsX hx hz (by omega)), hS⟩ (by omega)
    · have hxy' : lt y x = false := by simpa using hxy
      repeat' (first
        | ((with_reducible apply wp_region_plain (id := 0)); refine xv (ex_move (ev_at rfl)) ?_; refine xv (ex_move (ev_at rfl)) ?_; refine xv (ex_arith (ev_at rfl) (ev_at rfl) rfl (by first | exact IntWalk.i64_in _ (by omega) | rfl)) ?_; refine xv (ex_cmp (ev_at rfl) (ev_const _ _) (by first | exact eqlT (by omega) | exact eqlF (by omega) | rfl)) ?_; refine wl_nil ?_)
        | ((with_reducible apply wp_region_plain (id := 15)); refine xv (ex_move (ev_at rfl)) ?_; refine xv (ex_move (ev_at rfl)) ?_; refine xv (ex_cmp (ev_at rfl) (ev_at rfl) (by first | exact lssT (by omega) | exact lssF (by omega) | rfl)) ?_; refine wl_nil ?_)
        | ((with_reducible apply wp_region_plain (id := 16)); refine xv (ex_move (ev_at rfl)) ?_; refine xv (ex_move (ev_at rfl)) ?_; refine xv (ex_arith (s := ((i + j : Nat) : Int)) (ev_at rfl) (ev_at rfl) rfl (by rw [IntWalk.i64_in _ (by omega)]; omega)) ?_; refine xv (ex_convII (ev_at rfl) (inT rfl) (kdT rfl) (by first | exact IntWalk.u64_in _ (by omega) | rfl)) ?_; refine xv (ex_shrI (s := 1) (ev_at rfl) (ev_const _ _) (by first | decide | (simp only [IntKind.bits]; omega))) ?_; refine xv (ex_convII (s := (h : Int)) (ev_at rfl) (inT rfl) (kdT rfl) (by rw [IntWalk.i64_in _ (by omega)]; omega)) ?_; refine xv (ex_assign (ev_at rfl)) ?_; refine wl_nil ?_)
        | ((with_reducible apply wp_region_GS (id := 17) 12 (fun j => [0, 1, 2, 3, 4, 5, 6, 7, 8, 9, 10, 11].contains j) mixed); rfl; exact hS; (clear hS; intro w hS); refine xp 0 rfl rfl (fun w => ex_move (ev_at rfl)) ?_; refine xp 1 rfl rfl (fun w => ex_move (ev_at rfl)) ?_; refine xp 2 rfl rfl (fun w => ex_move (ev_at rfl)) ?_; (first | refine xp 3 rfl rfl (fun w => ex_iaN (ev_at rfl) (ev_at rfl) (slT rfl) (szT rfl) (by first | assumption | exact IsSl.nil) (by omega)) ?_ | refine xp 3 rfl rfl (fun w => ex_ia (ev_at rfl) (ev_at rfl) (slT rfl) (szT rfl) (by first | assumption | exact IsSl.nil) (by omega) (by omega)) ?_); refine xr 4 hS rfl rfl (fun w X hS => ex_load (ev_at rfl) (ldEl hE ((hS.rowH (v := v)).2.2.1) hvi (i := m) (by omega) hyw (kdT rfl) (szT rfl))) ?_; refine xp 5 rfl rfl (fun w => ex_move (ev_at rfl)) ?_; refine xp 6 rfl rfl (fun w => ex_move (ev_at rfl)) ?_; (first | refine xp 7 rfl rfl (fun w => ex_iaN (ev_at rfl) (ev_at rfl) (slT rfl) (szT rfl) (by first | assumption | exact IsSl.nil) (by omega)) ?_ | refine xp 7 rfl rfl (fun w => ex_ia (ev_at rfl) (ev_at rfl) (slT rfl) (szT rfl) (by first | assumption | exact IsSl.nil) (by omega) (by omega)) ?_); refine xr 8 hS rfl rfl (fun w X hS => ex_load (ev_at rfl) (ldEl hE ((hS.rowH (v := v)).2.2.1) hvi (i := h) (by omega) hxw (kdT rfl) (szT rfl))) ?_; refine wg_loud 9 (by decide +kernel) rfl rfl (wp_callV (ev_at rfl) hcb (EvL.c (ev_at rfl) (EvL.c (ev_at rfl) EvL.n)) ?_); refine (hc y x w [_] hS).mono ?_; rintro e w ⟨z, rfl, hz, hS⟩; have hz : 0 ≤ z := Int.not_lt.1 (fun h => hxy (hz.1 h)); have hS : Sat w I (Row v 44 34 n (flatE enc (A ++ X ++ [y] ++ C)) :: L) := hS; refine ⟨_, rfl, ⟨gsT hS, wg_p (by simp only [lset] <;> rfl) ?_⟩⟩; refine xp 10 rfl rfl (fun w => ex_cmp (ev_at rfl) (ev_const _ _) (by first | exact lssT (by omega) | exact lssF (by omega) | rfl)) ?_; refine xp 11 rfl rfl (fun w => ex_not (ev_at rfl)) ?_; refine wg_end (by decide +kernel) ?_)
        | ((with_reducible apply wp_region_plain (id := 18)); refine xv (ex_move (ev_at rfl)) ?_; refine xv (ex_arith (s := ((h + 1 : Nat) : Int)) (ev_at rfl) (ev_const _ _) rfl (by rw [IntWalk.i64_in _ (by omega)]; omega)) ?_; refine xv (ex_assign (ev_at rfl)) ?_; refine wl_nil ?_)
        | ((with_reducible apply wp_region_plain (id := 19)); refine xv (ex_move (ev_at rfl)) ?_; refine xv (ex_assign (ev_at rfl)) ?_; refine wl_nil ?_)
        | ((fail_if_success (with_reducible apply wp_region_plain)); (fail_if_success (with_reducible apply wp_region_GS)); go_step))
      exact loopEndM rfl (j - (h + 1)) ⟨h + 1, j, rfl, rfl, rfl, by omega, by omega, by omega, fun k z hz h2 => hO.trans z x y (srt_le hO hsX hz hx (by omega)) hxy', hP2, hS⟩ (by omega)
  have hij2 : i = j := by omega
  subst hij2
  obtain ⟨X1, X2, hXX, hX1l⟩ : ∃ X1 X2, X = X1 ++ X2 ∧ X1.length = i - a := ⟨X.take (i - a), X.drop (i - a), (List.take_append_drop _ _).symm, by simp; omega⟩
  have hmg : mrg lt X [y] = X1 ++ y :: X2 := by
    rw [hXX]
    refine mrg_last (fun x hx => ?_) (fun x hx => ?_)
    · obtain ⟨k, hk⟩ := List.getElem?_of_mem hx
      have h1 := (List.getElem?_eq_some_iff.1 hk).1
      exact hP1 k x (by rw [hXX, List.getElem?_append_left h1]; exact hk) (by omega)
    · obtain ⟨k, hk⟩ := List.getElem?_of_mem hx
      exact hP2 (X1.length + k) x (by rw [hXX, List.getElem?_append_right (by omega), Nat.add_sub_cancel_left]; exact hk) (by omega)
  rw [hXX] at hS hlen hm
  simp only [List.length_append] at hlen hm
  clear hP1 hP2 hn
  repeat' (first
    | ((with_reducible apply wp_region_plain (id := 0)); refine xv (ex_move (ev_at rfl)) ?_; refine xv (ex_move (ev_at rfl)) ?_; refine xv (ex_arith (ev_at rfl) (ev_at rfl) rfl (by first | exact IntWalk.i64_in _ (by omega) | rfl)) ?_; refine xv (ex_cmp (ev_at rfl) (ev_const _ _) (by first | exact eqlT (by omega) | exact eqlF (by omega) | rfl)) ?_; refine wl_nil ?_)
    | ((with_reducible apply wp_region_plain (id := 15)); refine xv (ex_move (ev_at rfl)) ?_; refine xv (ex_move (ev_at rfl)) ?_; refine xv (ex_cmp (ev_at rfl) (ev_at rfl) (by first | exact lssT (by omega) | exact lssF (by omega) | rfl)) ?_; refine wl_nil ?_)
    | ((with_reducible apply wp_region_plain (id := 20)); refine xv (ex_move (ev_at rfl)) ?_; refine xv (ex_assign (ev_at rfl)) ?_; refine wl_nil ?_)
    | ((fail_if_success (with_reducible apply wp_region_plain)); (fail_if_success (with_reducible apply wp_region_GS)); go_step))
  refine wp_loopM [false, false, false, false, false, false, false, false, false, false, false, false, false, false, false, false, false, true, false, false, false, false, false, false, false, false, false, false, false, false, false, false, false, false, false, false, false, false, false, false, false, false, false, false, false, false, false, false, false, false, false, false, false, false, false, false, false, false, false, false, false, false, false, false, false, false, false, false, false, false, false, false, false, false, false, false, false, false, false, false, false, false, false, false, false, false, false, false, false, false, false, false, false, false, false, false, false, false, false, false, false, false, false, false, false, false, false, false, true, true, true, true, true, true, true, true, true, true, true, true, true, true, true, true, true, true, true, true, true] (fun q f w => ∃ (Z1 Z2 : List α), q = Z1.length ∧ f 17 = .int .i64 ((i + Z1.length : Nat) : Int) ∧ Z1 ++ Z2 = X2 ∧ Sat w I (Row v 44 34 n (flatE enc (A ++ X1 ++ Z1 ++ y :: (Z2 ++ C))) :: L)) rfl X2.length ⟨X2, [], rfl, (by rw [show i + X2.length = m by omega]; rfl), by simp, by simpa only [List.append_assoc, List.cons_append, List.nil_append, List.append_nil] using hS⟩ ?_
  clear hS
  rintro q f w ⟨Z1, Z2, rfl, h17, hZ, hS⟩
  simp only [havoc, Nat.reduceAdd, h17]
  have hZl : Z1.length + Z2.length = X2.length := by rw [← hZ]; simp
  by_cases h0 : Z1 = []
  · subst h0
    simp only [List.length_nil, Nat.add_zero, List.nil_append] at hZ ⊢
    subst hZ
    repeat' (first
      | ((with_reducible apply wp_region_plain (id := 0)); refine xv (ex_move (ev_at rfl)) ?_; refine xv (ex_move (ev_at rfl)) ?_; refine xv (ex_arith (ev_at rfl) (ev_at rfl) rfl (by first | exact IntWalk.i64_in _ (by omega) | rfl)) ?_; refine xv (ex_cmp (ev_at rfl) (ev_const _ _) (by first | exact eqlT (by omega) | exact eqlF (by omega) | rfl)) ?_; refine wl_nil ?_)
      | ((with_reducible apply wp_region_plain (id := 21)); refine xv (ex_move (ev_at rfl)) ?_; refine xv (ex_move (ev_at rfl)) ?_; refine xv (ex_cmp (ev_at rfl) (ev_at rfl) (by first | exact gtrT (by omega) | exact gtrF (by omega) | rfl)) ?_; refine wl_nil ?_)
      | ((fail_if_success (with_reducible apply wp_region_plain)); (fail_if_success (with_reducible apply wp_region_GS)); go_step))
    refine endN (by first | exact .inl rfl | exact .inr rfl) rfl ResL.rn rfl ?_
    exact ⟨rfl, by rw [hmg]; simpa only [List.append_assoc, List.cons_append, List.nil_append] using hS⟩
  obtain ⟨Z1, x, rfl⟩ : ∃ Z0 x, Z1 = Z0 ++ [x] := ⟨_, _, (List.dropLast_concat_getLast h0).symm⟩
  simp only [List.length_append, List.length_cons, List.length_nil, Nat.zero_add] at hZl ⊢
  have hAZ : (A ++ X1 ++ Z1).length = i + Z1.length := by simp; omega
  have eS : A ++ X1 ++ (Z1 ++ [x]) ++ y :: (Z2 ++ C) = (A ++ X1 ++ Z1) ++ x :: y :: (Z2 ++ C) := by simp
  rw [eS] at hS
  have hx1 : (A ++ X1 ++ Z1 ++ x :: y :: (Z2 ++ C))[i + Z1.length]? = some x := by rw [← hAZ]; exact midGet _ _ _
  have hy1 : (A ++ X1 ++ Z1 ++ x :: y :: (Z2 ++ C))[i + Z1.length + 1]? = some y := by rw [← hAZ]; exact midGet1 _ _ _ _
  have hsw := swap_adj (A ++ X1 ++ Z1) (Z2 ++ C) y x
  rw [hAZ] at hsw
  have hlw : (A ++ X1 ++ Z1 ++ x :: y :: (Z2 ++ C)).length = n := by simp only [List.length_append, List.length_cons]; omega
  have hj1 : ((i + (Z1.length + 1) : Nat) : Int) = ((i + Z1.length + 1 : Nat) : Int) := by congr 1
  rw [hj1]
  generalize A ++ X1 ++ Z1 ++ x :: y :: (Z2 ++ C) = es at hS hx1 hy1 hsw hlw
  repeat' (first
    | ((with_reducible apply wp_region_plain (id := 0)); refine xv (ex_move (ev_at rfl)) ?_; refine xv (ex_move (ev_at rfl)) ?_; refine xv (ex_arith (ev_at rfl) (ev_at rfl) rfl (by first | exact IntWalk.i64_in _ (by omega) | rfl)) ?_; refine xv (ex_cmp (ev_at rfl) (ev_const _ _) (by first | exact eqlT (by omega) | exact eqlF (by omega) | rfl)) ?_; refine wl_nil ?_)
    | ((with_reducible apply wp_region_plain (id := 21)); refine xv (ex_move (ev_at rfl)) ?_; refine xv (ex_move (ev_at rfl)) ?_; refine xv (ex_cmp (ev_at rfl) (ev_at rfl) (by first | exact gtrT (by omega) | exact gtrF (by omega) | rfl)) ?_; refine wl_nil ?_)
    | ((with_reducible apply wp_region_GS (id := 23) 18 (fun j => [0, 1, 2, 3, 4, 5, 6, 7, 8, 9, 10, 11, 12, 13, 14, 16].contains j) mixed); rfl; exact hS; (clear hS; intro w hS); refine xp 0 rfl rfl (fun w => ex_move (ev_at rfl)) ?_; refine xp 1 rfl rfl (fun w => ex_move (ev_at rfl)) ?_; refine xp 2 rfl rfl (fun w => ex_move (ev_at rfl)) ?_; refine xp 3 rfl rfl (fun w => ex_move (ev_at rfl)) ?_; refine xp 4 rfl rfl (fun w => ex_arith (s := ((i + Z1.length : Nat) : Int)) (ev_at rfl) (ev_const _ _) rfl (by rw [IntWalk.i64_in _ (by omega)]; omega)) ?_; refine xp 5 rfl rfl (fun w => ex_move (ev_at rfl)) ?_; refine xp 6 rfl rfl (fun w => ex_move (ev_at rfl)) ?_; refine xp 7 rfl rfl (fun w => ex_arith (s := ((i + Z1.length : Nat) : Int)) (ev_at rfl) (ev_const _ _) rfl (by rw [IntWalk.i64_in _ (by omega)]; omega)) ?_; (first | refine xp 8 rfl rfl (fun w => ex_iaN (ev_at rfl) (ev_at rfl) (slT rfl) (szT rfl) (by first | assumption | exact IsSl.nil) (by omega)) ?_ | refine xp 8 rfl rfl (fun w => ex_ia (ev_at rfl) (ev_at rfl) (slT rfl) (szT rfl) (by first | assumption | exact IsSl.nil) (by omega) (by omega)) ?_); refine xr 9 hS rfl rfl (fun w X hS => ex_load (ev_at rfl) (ldEl hE ((hS.rowH (v := v)).2.2.1) hvi (i := i + Z1.length) (by omega) hx1 (kdT rfl) (szT rfl))) ?_; refine xp 10 rfl rfl (fun w => ex_move (ev_at rfl)) ?_; refine xp 11 rfl rfl (fun w => ex_move (ev_at rfl)) ?_; (first | refine xp 12 rfl rfl (fun w => ex_iaN (ev_at rfl) (ev_at rfl) (slT rfl) (szT rfl) (by first | assumption | exact IsSl.nil) (by omega)) ?_ | refine xp 12 rfl rfl (fun w => ex_ia (ev_at rfl) (ev_at rfl) (slT rfl) (szT rfl) (by first | assumption | exact IsSl.nil) (by omega) (by omega)) ?_); refine xr 13 hS rfl rfl (fun w X hS => ex_load (ev_at rfl) (ldEl hE ((hS.rowH (v := v)).2.2.1) hvi (i := i + Z1.length + 1) (by omega) hy1 (kdT rfl) (szT rfl))) ?_; (first | refine xp 14 rfl rfl (fun w => ex_iaN (ev_at rfl) (ev_at rfl) (slT rfl) (szT rfl) (by first | assumption | exact IsSl.nil) (by omega)) ?_ | refine xp 14 rfl rfl (fun w => ex_ia (ev_at rfl) (ev_at rfl) (slT rfl) (szT rfl) (by first | assumption | exact IsSl.nil) (by omega) (by omega)) ?_); refine wg_loud 15 (by decide +kernel) rfl rfl (wp_storeEl hE (i := i + Z1.length + 1) (x := x) (ev_at rfl) (ev_at rfl) hS (szT rfl) hlw (by omega) fun w hS => ⟨gsF rfl, wg_n ?_⟩); (first | refine xp 16 rfl rfl (fun w => ex_iaN (ev_at rfl) (ev_at rfl) (slT rfl) (szT rfl) (by first | assumption | exact IsSl.nil) (by omega)) ?_ | refine xp 16 rfl rfl (fun w => ex_ia (ev_at rfl) (ev_at rfl) (slT rfl) (szT rfl) (by first | assumption | exact IsSl.nil) (by omega) (by omega)) ?_); refine wg_loud 17 (by decide +kernel) rfl rfl (wp_storeEl hE (i := i + Z1.length) (x := y) (ev_at rfl) (ev_at rfl) hS (szT rfl) (by rw [List.length_set]; exact hlw) (by omega) fun w hS => ⟨gsF rfl, wg_n ?_⟩); refine wg_end (by decide +kernel) ?_; (try simp only [lset, splice, sub, List.take_succ_cons, List.take_zero, List.drop_succ_cons, List.drop_zero, List.nil_append, List.cons_append, List.length_cons, List.length_nil, Nat.reduceAdd, Nat.zero_add, rep_zero] at hS))
    | ((with_reducible apply wp_region_plain (id := 22)); refine xv (ex_move (ev_at rfl)) ?_; refine xv (ex_arith (s := ((i + Z1.length : Nat) : Int)) (ev_at rfl) (ev_const _ _) rfl (by rw [IntWalk.i64_in _ (by omega)]; omega)) ?_; refine xv (ex_assign (ev_at rfl)) ?_; refine wl_nil ?_)
    | ((fail_if_success (with_reducible apply wp_region_plain)); (fail_if_success (with_reducible apply wp_region_GS)); go_step))
  rw [hsw] at hS
  exact loopEndM rfl Z1.length ⟨Z1, x :: Z2, rfl, rfl, by rw [← hZ]; simp, by simpa only [List.append_assoc, List.cons_append, List.nil_append] using hS⟩ (by simp)
end
end Go.Proofs.Try
