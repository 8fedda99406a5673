/- Go's stable sort over rows of elements of one type: contracts (3). -/
import Derived.Test.YtggkomlobfpapaaSrt2
namespace Go.Proofs.Try
open Go.RowKit Go.SL Go.SS
set_option maxRecDepth 100000
set_option linter.unusedSimpArgs false
set_option linter.unusedVariables false
section
variable {I : Gh} {L : List Ch} {α : Type} {enc : α → List Value} {lt : α → α → Bool}
theorem takeDrop {l : List α} {k : Nat} (h : k ≤ l.length) : ∃ l1 l2, l = l1 ++ l2 ∧ l1.length = k := ⟨l.take k, l.drop k, (List.take_append_drop _ _).symm, by simp; omega⟩
theorem getL {l1 l2 : List α} {i : Nat} {x : α} (h : l1[i]? = some x) : (l1 ++ l2)[i]? = some x := by
  rw [List.getElem?_append_left (List.getElem?_eq_some_iff.1 h).1]; exact h
theorem getR {l1 l2 : List α} {i : Nat} {x : α} (h : l2[i]? = some x) : (l1 ++ l2)[l1.length + i]? = some x := by
  rw [List.getElem?_append_right (by omega), Nat.add_sub_cancel_left]; exact h
set_option maxHeartbeats 32000000 in
theorem sym_ct (hO : Ord lt) (hE : ElT enc 34) (v : Value) (cf : FuncId) (cap : List Value) (hcb : callB Try.prog cf = true) (hc : CmpOk I L cf cap enc lt) (n : Nat) (hn2 : n ≤ 1099511627) : ∀ (N : Nat) (w : World) (a m b : Nat) (A X Y C : List α), X.length + Y.length = N → a = A.length → m = a + X.length → b = m + Y.length → 0 < X.length → 0 < Y.length → Srt lt X → Srt lt Y → (A ++ X ++ Y ++ C).length = n →
    Sat w I (Row v 44 34 n (flatE enc (A ++ X ++ Y ++ C)) :: L) →
    Calls Try.prog 59 #[v, .int .i64 a, .int .i64 m, .int .i64 b, .func (.func cf) #[] cap.toArray] w fun e w' => e = .returned (.tuple #[]) ∧ Sat w' I (Row v 44 34 n (flatE enc (A ++ mrg lt X Y ++ C)) :: L) := by
  intro N
  induction N using Nat.strongRecOn with
  | ind N ih =>
  intro w a m b A X Y C hN ha hm hb hX0 hY0 hsX hsY hn hS
  by_cases hX1 : X.length = 1
  · obtain ⟨x, rfl⟩ := List.length_eq_one_iff.1 hX1
    exact sym1_ct hO hE v cf cap hcb hc n hn2 w a m b A Y C x ha hm hb hsY hn hS
  by_cases hY1 : Y.length = 1
  · obtain ⟨y, rfl⟩ := List.length_eq_one_iff.1 hY1
    exact sym2_ct hO hE v cf cap hcb hc n hn2 w a m b A X C y ha hm hb hX1 hsX hn hS
  have hvi := (hS.rowH (v := v)).1
  have hlen := hn
  simp only [List.length_append] at hlen
  obtain ⟨mid, hmid⟩ : ∃ mid, mid = (a + b) / 2 := ⟨_, rfl⟩
  have hmid1 : a < mid := by omega
  have hmid2 : mid < b := by omega
  obtain ⟨lo, hi, hlh, hal, hlm, hmh, hhm, hbl⟩ : ∃ lo hi : Nat, ((mid < m ∧ lo + b = mid + m ∧ hi = mid) ∨ (m ≤ mid ∧ lo = a ∧ hi = m)) ∧ a ≤ lo ∧ lo ≤ hi ∧ hi ≤ m ∧ hi ≤ mid ∧ mid + m ≤ b + lo := by
    by_cases h : mid < m
    · exact ⟨mid + m - b, mid, .inl ⟨h, by omega, rfl⟩, by omega, by omega, by omega, by omega, by omega⟩
    · exact ⟨a, m, .inr ⟨by omega, rfl, rfl⟩, by omega, by omega, by omega, by omega, by omega⟩
  have getX : ∀ c x, a ≤ c → X[c - a]? = some x → (A ++ X ++ Y ++ C)[c]? = some x := by
    intro c x h1 h2
    have := get4a (A := A) (Y := Y) (C := C) h2
    rwa [show A.length + (c - a) = c by omega] at this
  have getY : ∀ c y, m ≤ c → Y[c - m]? = some y → (A ++ X ++ Y ++ C)[c]? = some y := by
    intro c y h1 h2
    have := get4b (A := A) (X := X) (C := C) h2
    rwa [show A.length + X.length + (c - m) = c by omega] at this
  obtain ⟨es, hes⟩ : ∃ es, es = A ++ X ++ Y ++ C := ⟨_, rfl⟩
  rw [← hes] at hS hn getX getY
  have hstart : ∀ (P : World → Nat → Nat → Prop), True := fun _ => trivial
  by_cases hcase : mid < m
  all_goals
    have hlh2 : (mid < m ∧ lo + b = mid + m ∧ hi = mid) ∨ (¬ mid < m ∧ lo = a ∧ hi = m) := by omega
    go_enter Try.func59, Try.ntmps59
    repeat' (first
      | ((with_reducible apply wp_region_plain (id := 0)); refine xv (ex_move (ev_at rfl)) ?_; refine xv (ex_move (ev_at rfl)) ?_; refine xv (ex_arith (ev_at rfl) (ev_at rfl) rfl (by first | exact IntWalk.i64_in _ (by omega) | rfl)) ?_; refine xv (ex_cmp (ev_at rfl) (ev_const _ _) (by first | exact eqlT (by omega) | exact eqlF (by omega) | rfl)) ?_; refine wl_nil ?_)
      | ((with_reducible apply wp_region_plain (id := 12)); refine xv (ex_move (ev_at rfl)) ?_; refine xv (ex_move (ev_at rfl)) ?_; refine xv (ex_arith (ev_at rfl) (ev_at rfl) rfl (by first | exact IntWalk.i64_in _ (by omega) | rfl)) ?_; refine xv (ex_cmp (ev_at rfl) (ev_const _ _) (by first | exact eqlT (by omega) | exact eqlF (by omega) | rfl)) ?_; refine wl_nil ?_)
      | ((with_reducible apply wp_region_plain (id := 24)); refine xv (ex_move (ev_at rfl)) ?_; refine xv (ex_move (ev_at rfl)) ?_; refine xv (ex_arith (s := ((a + b : Nat) : Int)) (ev_at rfl) (ev_at rfl) rfl (by rw [IntWalk.i64_in _ (by omega)]; omega)) ?_; refine xv (ex_convII (ev_at rfl) (inT rfl) (kdT rfl) (by first | exact IntWalk.u64_in _ (by omega) | rfl)) ?_; refine xv (ex_shrI (s := 1) (ev_at rfl) (ev_const _ _) (by first | decide | (simp only [IntKind.bits]; omega))) ?_; refine xv (ex_convII (s := (mid : Int)) (ev_at rfl) (inT rfl) (kdT rfl) (by rw [IntWalk.i64_in _ (by omega)]; omega)) ?_; refine xv (ex_assign (ev_at rfl)) ?_; refine wl_nil ?_)
      | ((with_reducible apply wp_region_plain (id := 25)); refine xv (ex_move (ev_at rfl)) ?_; refine xv (ex_move (ev_at rfl)) ?_; refine xv (ex_arith (s := ((mid + m : Nat) : Int)) (ev_at rfl) (ev_at rfl) rfl (by rw [IntWalk.i64_in _ (by omega)]; omega)) ?_; refine xv (ex_assign (ev_at rfl)) ?_; refine wl_nil ?_)
      | ((with_reducible apply wp_region_plain (id := 26)); refine xv (ex_assign (ev_const _ _)) ?_; refine xv (ex_assign (ev_const _ _)) ?_; refine wl_nil ?_)
      | ((with_reducible apply wp_region_plain (id := 27)); refine xv (ex_move (ev_at rfl)) ?_; refine xv (ex_move (ev_at rfl)) ?_; refine xv (ex_cmp (ev_at rfl) (ev_at rfl) (by first | exact gtrT (by omega) | exact gtrF (by omega) | rfl)) ?_; refine wl_nil ?_)
      | ((with_reducible apply wp_region_plain (id := 28)); refine xv (ex_move (ev_at rfl)) ?_; refine xv (ex_move (ev_at rfl)) ?_; refine xv (ex_arith (s := (lo : Int)) (ev_at rfl) (ev_at rfl) rfl (by rw [IntWalk.i64_in _ (by omega)]; omega)) ?_; refine xv (ex_assign (ev_at rfl)) ?_; refine wl_nil ?_)
      | ((with_reducible apply wp_region_plain (id := 29)); refine xv (ex_move (ev_at rfl)) ?_; refine xv (ex_assign (ev_at rfl)) ?_; refine wl_nil ?_)
      | ((with_reducible apply wp_region_plain (id := 30)); refine xv (ex_move (ev_at rfl)) ?_; refine xv (ex_assign (ev_at rfl)) ?_; refine wl_nil ?_)
      | ((with_reducible apply wp_region_plain (id := 31)); refine xv (ex_move (ev_at rfl)) ?_; refine xv (ex_assign (ev_at rfl)) ?_; refine wl_nil ?_)
      | ((with_reducible apply wp_region_plain (id := 32)); refine xv (ex_move (ev_at rfl)) ?_; refine xv (ex_arith (s := ((mid + m - 1 : Nat) : Int)) (ev_at rfl) (ev_const _ _) rfl (by rw [IntWalk.i64_in _ (by omega)]; omega)) ?_; refine xv (ex_assign (ev_at rfl)) ?_; refine wl_nil ?_)
      | ((fail_if_success (with_reducible apply wp_region_plain)); (fail_if_success (with_reducible apply wp_region_GS)); go_step))
    refine wp_loopM [false, false, false, false, false, false, false, false, false, false, false, false, false, false, false, false, false, false, false, false, true, true, false, true, false, false, false, false, false, false, false, false, false, false, false, false, false, false, false, false, false, false, false, false, false, false, false, false, false, false, false, false, false, false, false, false, false, false, false, false, false, false, false, false, false, false, false, false, false, false, false, false, false, false, false, false, false, false, false, false, false, false, false, false, false, false, false, false, false, false, false, false, false, false, false, false, false, false, false, false, false, false, false, false, false, false, false, false, false, false, false, false, false, false, false, false, false, false, false, false, false, false, false, false, false, false, false, false, false, false, false, false, false, false, false, false, false, false, false, false, false, false, false, false, false, false, false, false, false, true, true, true, true, true, true, true, true, true, true, true, true, true, true, true, true, true, true, true, true, true, true, true, true, true, true] (fun q f w => ∃ (s r : Nat), q = r - s ∧ f 20 = .int .i64 s ∧ f 21 = .int .i64 r ∧ lo ≤ s ∧ s ≤ r ∧ r ≤ hi ∧ (∀ c x y, lo ≤ c → c < s → X[c - a]? = some x → Y[mid + m - 1 - c - m]? = some y → lt y x = false) ∧ (∀ c x y, r ≤ c → c < hi → X[c - a]? = some x → Y[mid + m - 1 - c - m]? = some y → lt y x = true) ∧ Sat w I (Row v 44 34 n (flatE enc es) :: L)) rfl (hi - lo) ⟨lo, hi, rfl, (by first | rfl | (rw [show lo = a by omega]; rfl)), (by first | rfl | (rw [show hi = mid by omega]; rfl) | (rw [show hi = m by omega]; rfl)), by omega, by omega, by omega, fun c x y h1 h2 => by omega, fun c x y h1 h2 => by omega, hS⟩ ?_
    clear hS
    rintro q f w ⟨s, r, rfl, h20, h21, hls, hsr, hrh, hP1, hP2, hS⟩
    simp only [havoc, Nat.reduceAdd, h20, h21]
    by_cases hlt : s < r
    case pos =>
      obtain ⟨c, hcc⟩ : ∃ c, c = (s + r) / 2 := ⟨_, rfl⟩
      have hc1 : s ≤ c := by omega
      have hc2 : c < r := by omega
      obtain ⟨x, hx⟩ : ∃ x, X[c - a]? = some x := ⟨_, List.getElem?_eq_getElem (by omega)⟩
      obtain ⟨y, hy⟩ : ∃ y, Y[mid + m - 1 - c - m]? = some y := ⟨_, List.getElem?_eq_getElem (by omega)⟩
      have hxw := getX c x (by omega) hx
      have hyw := getY (mid + m - 1 - c) y (by omega) hy
      by_cases hxy : lt y x = true
      · repeat' (first
          | ((with_reducible apply wp_region_plain (id := 0)); refine xv (ex_move (ev_at rfl)) ?_; refine xv (ex_move (ev_at rfl)) ?_; refine xv (ex_arith (ev_at rfl) (ev_at rfl) rfl (by first | exact IntWalk.i64_in _ (by omega) | rfl)) ?_; refine xv (ex_cmp (ev_at rfl) (ev_const _ _) (by first | exact eqlT (by omega) | exact eqlF (by omega) | rfl)) ?_; refine wl_nil ?_)
          | ((with_reducible apply wp_region_plain (id := 33)); refine xv (ex_move (ev_at rfl)) ?_; refine xv (ex_move (ev_at rfl)) ?_; refine xv (ex_cmp (ev_at rfl) (ev_at rfl) (by first | exact lssT (by omega) | exact lssF (by omega) | rfl)) ?_; refine wl_nil ?_)
          | ((with_reducible apply wp_region_plain (id := 34)); refine xv (ex_move (ev_at rfl)) ?_; refine xv (ex_move (ev_at rfl)) ?_; refine xv (ex_arith (s := ((s + r : Nat) : Int)) (ev_at rfl) (ev_at rfl) rfl (by rw [IntWalk.i64_in _ (by omega)]; omega)) ?_; refine xv (ex_convII (ev_at rfl) (inT rfl) (kdT rfl) (by first | exact IntWalk.u64_in _ (by omega) | rfl)) ?_; refine xv (ex_shrI (s := 1) (ev_at rfl) (ev_const _ _) (by first | decide | (simp only [IntKind.bits]; omega))) ?_; refine xv (ex_convII (s := (c : Int)) (ev_at rfl) (inT rfl) (kdT rfl) (by rw [IntWalk.i64_in _ (by omega)]; omega)) ?_; refine xv (ex_assign (ev_at rfl)) ?_; refine wl_nil ?_)
          | ((with_reducible apply wp_region_GS (id := 35) 14 (fun j => [0, 1, 2, 3, 4, 5, 6, 7, 8, 9, 10, 11, 12, 13].contains j) mixed); rfl; exact hS; (clear hS; intro w hS); refine xp 0 rfl rfl (fun w => ex_move (ev_at rfl)) ?_; refine xp 1 rfl rfl (fun w => ex_move (ev_at rfl)) ?_; refine xp 2 rfl rfl (fun w => ex_move (ev_at rfl)) ?_; refine xp 3 rfl rfl (fun w => ex_move (ev_at rfl)) ?_; refine xp 4 rfl rfl (fun w => ex_arith (s := ((mid + m - 1 - c : Nat) : Int)) (ev_at rfl) (ev_at rfl) rfl (by rw [IntWalk.i64_in _ (by omega)]; omega)) ?_; (first | refine xp 5 rfl rfl (fun w => ex_iaN (ev_at rfl) (ev_at rfl) (slT rfl) (szT rfl) (by first | assumption | exact IsSl.nil) (by omega)) ?_ | refine xp 5 rfl rfl (fun w => ex_ia (ev_at rfl) (ev_at rfl) (slT rfl) (szT rfl) (by first | assumption | exact IsSl.nil) (by omega) (by omega)) ?_); refine xr 6 hS rfl rfl (fun w X hS => ex_load (ev_at rfl) (ldEl hE ((hS.rowH (v := v)).2.2.1) hvi (i := mid + m - 1 - c) (by omega) hyw (kdT rfl) (szT rfl))) ?_; refine xp 7 rfl rfl (fun w => ex_move (ev_at rfl)) ?_; refine xp 8 rfl rfl (fun w => ex_move (ev_at rfl)) ?_; (first | refine xp 9 rfl rfl (fun w => ex_iaN (ev_at rfl) (ev_at rfl) (slT rfl) (szT rfl) (by first | assumption | exact IsSl.nil) (by omega)) ?_ | refine xp 9 rfl rfl (fun w => ex_ia (ev_at rfl) (ev_at rfl) (slT rfl) (szT rfl) (by first | assumption | exact IsSl.nil) (by omega) (by omega)) ?_); refine xr 10 hS rfl rfl (fun w X hS => ex_load (ev_at rfl) (ldEl hE ((hS.rowH (v := v)).2.2.1) hvi (i := c) (by omega) hxw (kdT rfl) (szT rfl))) ?_; refine wg_loud 11 (by decide +kernel) rfl rfl (wp_callV (ev_at rfl) hcb (EvL.c (ev_at rfl) (EvL.c (ev_at rfl) EvL.n)) ?_); refine (hc y x w [_] hS).mono ?_; rintro e w ⟨z, rfl, hz, hS⟩; have hz : z < 0 := hz.2 hxy; have hS : Sat w I (Row v 44 34 n (flatE enc es) :: L) := hS; refine ⟨_, rfl, ⟨gsT hS, wg_p (by simp only [lset] <;> rfl) ?_⟩⟩; refine xp 12 rfl rfl (fun w => ex_cmp (ev_at rfl) (ev_const _ _) (by first | exact lssT (by omega) | exact lssF (by omega) | rfl)) ?_; refine xp 13 rfl rfl (fun w => ex_not (ev_at rfl)) ?_; refine wg_end (by decide +kernel) ?_)
          | ((with_reducible apply wp_region_plain (id := 36)); refine xv (ex_move (ev_at rfl)) ?_; refine xv (ex_arith (ev_at rfl) (ev_const _ _) rfl (by first | exact IntWalk.i64_in _ (by omega) | rfl)) ?_; refine xv (ex_assign (ev_at rfl)) ?_; refine wl_nil ?_)
          | ((with_reducible apply wp_region_plain (id := 37)); refine xv (ex_move (ev_at rfl)) ?_; refine xv (ex_assign (ev_at rfl)) ?_; refine wl_nil ?_)
          | ((fail_if_success (with_reducible apply wp_region_plain)); (fail_if_success (with_reducible apply wp_region_GS)); go_step))
        exact loopEndM rfl (c - s) ⟨s, c, rfl, rfl, rfl, by omega, by omega, by omega, hP1, fun c2 x2 y2 g1 g2 gx gy => hO.lt_of_lt_of_le (hO.lt_of_le_of_lt (srt_le hO hsY gy hy (by omega)) hxy) (srt_le hO hsX hx gx (by omega)), hS⟩ (by omega)
      · have hxy' : lt y x = false := by simpa using hxy
        repeat' (first
          | ((with_reducible apply wp_region_plain (id := 0)); refine xv (ex_move (ev_at rfl)) ?_; refine xv (ex_move (ev_at rfl)) ?_; refine xv (ex_arith (ev_at rfl) (ev_at rfl) rfl (by first | exact IntWalk.i64_in _ (by omega) | rfl)) ?_; refine xv (ex_cmp (ev_at rfl) (ev_const _ _) (by first | exact eqlT (by omega) | exact eqlF (by omega) | rfl)) ?_; refine wl_nil ?_)
          | ((with_reducible apply wp_region_plain (id := 33)); refine xv (ex_move (ev_at rfl)) ?_; refine xv (ex_move (ev_at rfl)) ?_; refine xv (ex_cmp (ev_at rfl) (ev_at rfl) (by first | exact lssT (by omega) | exact lssF (by omega) | rfl)) ?_; refine wl_nil ?_)
          | ((with_reducible apply wp_region_plain (id := 34)); refine xv (ex_move (ev_at rfl)) ?_; refine xv (ex_move (ev_at rfl)) ?_; refine xv (ex_arith (s := ((s + r : Nat) : Int)) (ev_at rfl) (ev_at rfl) rfl (by rw [IntWalk.i64_in _ (by omega)]; omega)) ?_; refine xv (ex_convII (ev_at rfl) (inT rfl) (kdT rfl) (by first | exact IntWalk.u64_in _ (by omega) | rfl)) ?_; refine xv (ex_shrI (s := 1) (ev_at rfl) (ev_const _ _) (by first | decide | (simp only [IntKind.bits]; omega))) ?_; refine xv (ex_convII (s := (c : Int)) (ev_at rfl) (inT rfl) (kdT rfl) (by rw [IntWalk.i64_in _ (by omega)]; omega)) ?_; refine xv (ex_assign (ev_at rfl)) ?_; refine wl_nil ?_)
          | ((with_reducible apply wp_region_GS (id := 35) 14 (fun j => [0, 1, 2, 3, 4, 5, 6, 7, 8, 9, 10, 11, 12, 13].contains j) mixed); rfl; exact hS; (clear hS; intro w hS); refine xp 0 rfl rfl (fun w => ex_move (ev_at rfl)) ?_; refine xp 1 rfl rfl (fun w => ex_move (ev_at rfl)) ?_; refine xp 2 rfl rfl (fun w => ex_move (ev_at rfl)) ?_; refine xp 3 rfl rfl (fun w => ex_move (ev_at rfl)) ?_; refine xp 4 rfl rfl (fun w => ex_arith (s := ((mid + m - 1 - c : Nat) : Int)) (ev_at rfl) (ev_at rfl) rfl (by rw [IntWalk.i64_in _ (by omega)]; omega)) ?_; (first | refine xp 5 rfl rfl (fun w => ex_iaN (ev_at rfl) (ev_at rfl) (slT rfl) (szT rfl) (by first | assumption | exact IsSl.nil) (by omega)) ?_ | refine xp 5 rfl rfl (fun w => ex_ia (ev_at rfl) (ev_at rfl) (slT rfl) (szT rfl) (by first | assumption | exact IsSl.nil) (by omega) (by omega)) ?_); refine xr 6 hS rfl rfl (fun w X hS => ex_load (ev_at rfl) (ldEl hE ((hS.rowH (v := v)).2.2.1) hvi (i := mid + m - 1 - c) (by omega) hyw (kdT rfl) (szT rfl))) ?_; refine xp 7 rfl rfl (fun w => ex_move (ev_at rfl)) ?_; refine xp 8 rfl rfl (fun w => ex_move (ev_at rfl)) ?_; (first | refine xp 9 rfl rfl (fun w => ex_iaN (ev_at rfl) (ev_at rfl) (slT rfl) (szT rfl) (by first | assumption | exact IsSl.nil) (by omega)) ?_ | refine xp 9 rfl rfl (fun w => ex_ia (ev_at rfl) (ev_at rfl) (slT rfl) (szT rfl) (by first | assumption | exact IsSl.nil) (by omega) (by omega)) ?_); refine xr 10 hS rfl rfl (fun w X hS => ex_load (ev_at rfl) (ldEl hE ((hS.rowH (v := v)).2.2.1) hvi (i := c) (by omega) hxw (kdT rfl) (szT rfl))) ?_; refine wg_loud 11 (by decide +kernel) rfl rfl (wp_callV (ev_at rfl) hcb (EvL.c (ev_at rfl) (EvL.c (ev_at rfl) EvL.n)) ?_); refine (hc y x w [_] hS).mono ?_; rintro e w ⟨z, rfl, hz, hS⟩; have hz : 0 ≤ z := Int.not_lt.1 (fun h => hxy (hz.1 h)); have hS : Sat w I (Row v 44 34 n (flatE enc es) :: L) := hS; refine ⟨_, rfl, ⟨gsT hS, wg_p (by simp only [lset] <;> rfl) ?_⟩⟩; refine xp 12 rfl rfl (fun w => ex_cmp (ev_at rfl) (ev_const _ _) (by first | exact lssT (by omega) | exact lssF (by omega) | rfl)) ?_; refine xp 13 rfl rfl (fun w => ex_not (ev_at rfl)) ?_; refine wg_end (by decide +kernel) ?_)
          | ((with_reducible apply wp_region_plain (id := 36)); refine xv (ex_move (ev_at rfl)) ?_; refine xv (ex_arith (s := ((c + 1 : Nat) : Int)) (ev_at rfl) (ev_const _ _) rfl (by rw [IntWalk.i64_in _ (by omega)]; omega)) ?_; refine xv (ex_assign (ev_at rfl)) ?_; refine wl_nil ?_)
          | ((with_reducible apply wp_region_plain (id := 37)); refine xv (ex_move (ev_at rfl)) ?_; refine xv (ex_assign (ev_at rfl)) ?_; refine wl_nil ?_)
          | ((fail_if_success (with_reducible apply wp_region_plain)); (fail_if_success (with_reducible apply wp_region_GS)); go_step))
        exact loopEndM rfl (r - (c + 1)) ⟨c + 1, r, rfl, rfl, rfl, by omega, by omega, by omega, fun c2 x2 y2 g1 g2 gx gy => hO.trans x2 x y2 (srt_le hO hsX gx hx (by omega)) (hO.trans x y y2 hxy' (srt_le hO hsY hy gy (by omega))), hP2, hS⟩ (by omega)
    have hsr2 : s = r := by omega
    subst hsr2
    obtain ⟨ed, hed⟩ : ∃ ed : Nat, ed + s = mid + m := ⟨mid + m - s, by omega⟩
    obtain ⟨X1, X2, hXX, hX1l⟩ := takeDrop (l := X) (k := s - a) (by omega)
    obtain ⟨Y1, Y2, hYY, hY1l⟩ := takeDrop (l := Y) (k := ed - m) (by omega)
    have hX2l : X2.length = m - s := by have := congrArg List.length hXX; rw [List.length_append] at this; omega
    have hY2l : Y2.length = b - ed := by have := congrArg List.length hYY; rw [List.length_append] at this; omega
    have hmg : mrg lt X Y = mrg lt X1 Y1 ++ mrg lt X2 Y2 := by
      rw [hXX, hYY]
      refine mrg_parts X1 Y1 X2 Y2 (fun x hx y hy => ?_) (fun x hx y hy => ?_)
      · obtain ⟨i, hi'⟩ := List.getElem?_of_mem hx
        obtain ⟨j, hj'⟩ := List.getElem?_of_mem hy
        have hil := (List.getElem?_eq_some_iff.1 hi').1
        have hjl := (List.getElem?_eq_some_iff.1 hj').1
        obtain ⟨x', hx'⟩ : ∃ x, X[s - 1 - a]? = some x := ⟨_, List.getElem?_eq_getElem (by omega)⟩
        obtain ⟨y', hy'⟩ : ∃ y, Y[mid + m - 1 - (s - 1) - m]? = some y := ⟨_, List.getElem?_eq_getElem (by omega)⟩
        have hxy := hP1 (s - 1) x' y' (by omega) (by omega) hx' hy'
        have gx : X[i]? = some x := by rw [hXX]; exact getL hi'
        have gy : Y[Y1.length + j]? = some y := by rw [hYY]; exact getR hj'
        exact hO.trans x x' y (srt_le hO hsX gx hx' (by omega)) (hO.trans x' y' y hxy (srt_le hO hsY hy' gy (by omega)))
      · obtain ⟨i, hi'⟩ := List.getElem?_of_mem hx
        obtain ⟨j, hj'⟩ := List.getElem?_of_mem hy
        have hil := (List.getElem?_eq_some_iff.1 hi').1
        have hjl := (List.getElem?_eq_some_iff.1 hj').1
        obtain ⟨x', hx'⟩ : ∃ x, X[s - a]? = some x := ⟨_, List.getElem?_eq_getElem (by omega)⟩
        obtain ⟨y', hy'⟩ : ∃ y, Y[mid + m - 1 - s - m]? = some y := ⟨_, List.getElem?_eq_getElem (by omega)⟩
        have hxy := hP2 s x' y' (by omega) (by omega) hx' hy'
        have gx : X[X1.length + i]? = some x := by rw [hXX]; exact getR hi'
        have gy : Y[j]? = some y := by rw [hYY]; exact getL hj'
        exact hO.lt_of_lt_of_le (hO.lt_of_le_of_lt (srt_le hO hsY gy hy' (by omega)) hxy) (srt_le hO hsX hx' gx (by omega))
    have hsX1 : Srt lt X1 := by rw [hXX] at hsX; exact (List.pairwise_append.1 hsX).1
    have hsX2 : Srt lt X2 := by rw [hXX] at hsX; exact (List.pairwise_append.1 hsX).2.1
    have hsY1 : Srt lt Y1 := by rw [hYY] at hsY; exact (List.pairwise_append.1 hsY).1
    have hsY2 : Srt lt Y2 := by rw [hYY] at hsY; exact (List.pairwise_append.1 hsY).2.1
    rw [hXX, hYY] at hes
    have hml1 := mrg_length (lt := lt) X1 Y1
    obtain ⟨e1, he1⟩ : ∃ e1, e1 = A ++ X1 ++ Y1 ++ X2 ++ Y2 ++ C := ⟨_, rfl⟩
    obtain ⟨e2, he2⟩ : ∃ e2, e2 = A ++ mrg lt X1 Y1 ++ X2 ++ Y2 ++ C := ⟨_, rfl⟩
    obtain ⟨e3, he3⟩ : ∃ e3, e3 = A ++ mrg lt X1 Y1 ++ mrg lt X2 Y2 ++ C := ⟨_, rfl⟩
    have hrot := fun (h1 : s < m) (h2 : m < ed) (w : World) (hS : Sat w I (Row v 44 34 n (flatE enc es) :: L)) => rotate_ct (w := w) (I := I) (L := L) hE v (.func (.func cf) #[] cap.toArray) n s m ed (A ++ X1) X2 Y1 (Y2 ++ C) (by rw [List.length_append]; omega) (by rw [List.length_append]; omega) (by rw [List.length_append]; omega) (by omega) (by omega) (by rw [← hn, hes]; simp) hn2 (by rw [hes] at hS; simpa only [List.append_assoc] using hS)
    have hsy1 := fun (h1 : a < s) (h2 : s < mid) (w : World) (hS : Sat w I (Row v 44 34 n (flatE enc e1) :: L)) => ih (X1.length + Y1.length) (by omega) w a s mid A X1 Y1 (X2 ++ (Y2 ++ C)) rfl ha (by omega) (by omega) (by omega) (by omega) hsX1 hsY1 (by rw [← hn, hes]; simp; omega) (by rw [he1] at hS; simpa only [List.append_assoc] using hS)
    have hsy2 := fun (h1 : mid < ed) (h2 : ed < b) (w : World) (hS : Sat w I (Row v 44 34 n (flatE enc e2) :: L)) => ih (X2.length + Y2.length) (by omega) w mid ed b (A ++ mrg lt X1 Y1) X2 Y2 C rfl (by rw [List.length_append]; omega) (by omega) (by omega) (by omega) (by omega) hsX2 hsY2 (by rw [← hn, hes]; simp; omega) (by rw [he2] at hS; exact hS)
    have nil_of : ∀ l : List α, l.length = 0 → l = [] := fun l h => List.eq_nil_of_length_eq_zero h
    have e01 : ¬ (s < m ∧ m < ed) → es = e1 := by
      intro h
      rw [hes, he1]
      by_cases g : s < m
      · rw [nil_of Y1 (by omega)]; simp
      · rw [nil_of X2 (by omega)]; simp
    have e12 : ¬ (a < s ∧ s < mid) → e1 = e2 := by
      intro h
      rw [he1, he2]
      by_cases g : a < s
      · rw [nil_of Y1 (by omega), mrg_nil]; simp
      · rw [nil_of X1 (by omega), nil_mrg]; simp
    have e23 : ¬ (mid < ed ∧ ed < b) → e2 = e3 := by
      intro h
      rw [he2, he3]
      by_cases g : mid < ed
      · rw [nil_of Y2 (by omega), mrg_nil]; simp
      · rw [nil_of X2 (by omega), nil_mrg]; simp
    have f1 : A ++ X1 ++ Y1 ++ X2 ++ (Y2 ++ C) = e1 := by rw [he1]; simp
    have f2 : A ++ mrg lt X1 Y1 ++ (X2 ++ (Y2 ++ C)) = e2 := by rw [he2]; simp
    have f3 : A ++ mrg lt X1 Y1 ++ mrg lt X2 Y2 ++ C = e3 := he3.symm
    have f4 : A ++ mrg lt X Y ++ C = e3 := by rw [he3, hmg]; simp
    simp only [f1] at hrot
    simp only [f2] at hsy1
    simp only [f3] at hsy2
    clear f1 f2 f3 hP1 hP2 getX getY hes he1 he2 he3 hmg ih hsX hsY hsX1 hsX2 hsY1 hsY2 hc hls hlh2 hlh h20 h21
    by_cases c1 : a < s <;> by_cases c2 : s < mid <;> by_cases c3 : s < m <;> by_cases c4 : ed < b
    all_goals first | (exfalso; omega) | skip
    all_goals
      repeat' (first
        | ((with_reducible apply wp_region_plain (id := 0)); refine xv (ex_move (ev_at rfl)) ?_; refine xv (ex_move (ev_at rfl)) ?_; refine xv (ex_arith (ev_at rfl) (ev_at rfl) rfl (by first | exact IntWalk.i64_in _ (by omega) | rfl)) ?_; refine xv (ex_cmp (ev_at rfl) (ev_const _ _) (by first | exact eqlT (by omega) | exact eqlF (by omega) | rfl)) ?_; refine wl_nil ?_)
        | ((with_reducible apply wp_region_plain (id := 33)); refine xv (ex_move (ev_at rfl)) ?_; refine xv (ex_move (ev_at rfl)) ?_; refine xv (ex_cmp (ev_at rfl) (ev_at rfl) (by first | exact lssT (by omega) | exact lssF (by omega) | rfl)) ?_; refine wl_nil ?_)
        | ((with_reducible apply wp_region_plain (id := 38)); refine xv (ex_move (ev_at rfl)) ?_; refine xv (ex_move (ev_at rfl)) ?_; refine xv (ex_arith (s := (ed : Int)) (ev_at rfl) (ev_at rfl) rfl (by rw [IntWalk.i64_in _ (by omega)]; omega)) ?_; refine xv (ex_assign (ev_at rfl)) ?_; refine wl_nil ?_)
        | ((with_reducible apply wp_region_plain (id := 39)); refine xv (ex_move (ev_at rfl)) ?_; refine xv (ex_move (ev_at rfl)) ?_; refine xv (ex_cmp (ev_at rfl) (ev_at rfl) (by first | exact lssT (by omega) | exact lssF (by omega) | rfl)) ?_; refine xv (ex_move (ev_at rfl)) ?_; (first | refine wl_skip rfl rfl (by simp only [lset] <;> rfl) ?_ | (refine xv (ex_move (ev_at rfl)) ?_)); (first | refine wl_skip rfl rfl (by simp only [lset] <;> rfl) ?_ | (refine xv (ex_move (ev_at rfl)) ?_)); (first | refine wl_skip rfl rfl (by simp only [lset] <;> rfl) ?_ | (refine xv (ex_cmp (ev_at rfl) (ev_at rfl) (by first | exact lssT (by omega) | exact lssF (by omega) | rfl)) ?_)); (first | refine xv (ex_pickT (ev_at rfl) (ev_at rfl)) ?_ | refine xv (ex_pickF (ev_at rfl) (ev_const _ _)) ?_ | refine xv (ex_pickAnd (ev_at rfl) (ev_at rfl) (ev_const _ _)) ?_); refine wl_nil ?_)
        | ((with_reducible apply wp_region_plain (id := 40)); refine xv (ex_move (ev_at rfl)) ?_; refine xv (ex_move (ev_at rfl)) ?_; refine xv (ex_move (ev_at rfl)) ?_; refine xv (ex_move (ev_at rfl)) ?_; refine xv (ex_move (ev_at rfl)) ?_; refine wl_of rfl (wp_callL (cbT rfl) (EvL.c (ev_at rfl) (EvL.c (ev_at rfl) (EvL.c (ev_at rfl) (EvL.c (ev_at rfl) (EvL.c (ev_at rfl) EvL.n))))) ?_); refine (hrot (by omega) (by omega) _ hS).mono ?_; rintro e w ⟨rfl, hS⟩; refine ⟨_, rfl, wl_put (by simp only [lset] <;> rfl) ?_⟩; refine wl_nil ?_)
        | ((with_reducible apply wp_region_plain (id := 41)); refine xv (ex_move (ev_at rfl)) ?_; refine xv (ex_move (ev_at rfl)) ?_; refine xv (ex_cmp (ev_at rfl) (ev_at rfl) (by first | exact lssT (by omega) | exact lssF (by omega) | rfl)) ?_; refine xv (ex_move (ev_at rfl)) ?_; (first | refine wl_skip rfl rfl (by simp only [lset] <;> rfl) ?_ | (refine xv (ex_move (ev_at rfl)) ?_)); (first | refine wl_skip rfl rfl (by simp only [lset] <;> rfl) ?_ | (refine xv (ex_move (ev_at rfl)) ?_)); (first | refine wl_skip rfl rfl (by simp only [lset] <;> rfl) ?_ | (refine xv (ex_cmp (ev_at rfl) (ev_at rfl) (by first | exact lssT (by omega) | exact lssF (by omega) | rfl)) ?_)); (first | refine xv (ex_pickT (ev_at rfl) (ev_at rfl)) ?_ | refine xv (ex_pickF (ev_at rfl) (ev_const _ _)) ?_ | refine xv (ex_pickAnd (ev_at rfl) (ev_at rfl) (ev_const _ _)) ?_); refine wl_nil ?_)
        | ((with_reducible apply wp_region_plain (id := 42)); refine xv (ex_move (ev_at rfl)) ?_; refine xv (ex_move (ev_at rfl)) ?_; refine xv (ex_move (ev_at rfl)) ?_; refine xv (ex_move (ev_at rfl)) ?_; refine xv (ex_move (ev_at rfl)) ?_; refine wl_of rfl (wp_callL (cbT rfl) (EvL.c (ev_at rfl) (EvL.c (ev_at rfl) (EvL.c (ev_at rfl) (EvL.c (ev_at rfl) (EvL.c (ev_at rfl) EvL.n))))) ?_); refine (hsy1 (by omega) (by omega) _ (by first | exact hS | (rw [e01 (by omega)] at hS; exact hS))).mono ?_; rintro e w ⟨rfl, hS⟩; refine ⟨_, rfl, wl_put (by simp only [lset] <;> rfl) ?_⟩; refine wl_nil ?_)
        | ((with_reducible apply wp_region_plain (id := 43)); refine xv (ex_move (ev_at rfl)) ?_; refine xv (ex_move (ev_at rfl)) ?_; refine xv (ex_cmp (ev_at rfl) (ev_at rfl) (by first | exact lssT (by omega) | exact lssF (by omega) | rfl)) ?_; refine xv (ex_move (ev_at rfl)) ?_; (first | refine wl_skip rfl rfl (by simp only [lset] <;> rfl) ?_ | (refine xv (ex_move (ev_at rfl)) ?_)); (first | refine wl_skip rfl rfl (by simp only [lset] <;> rfl) ?_ | (refine xv (ex_move (ev_at rfl)) ?_)); (first | refine wl_skip rfl rfl (by simp only [lset] <;> rfl) ?_ | (refine xv (ex_cmp (ev_at rfl) (ev_at rfl) (by first | exact lssT (by omega) | exact lssF (by omega) | rfl)) ?_)); (first | refine xv (ex_pickT (ev_at rfl) (ev_at rfl)) ?_ | refine xv (ex_pickF (ev_at rfl) (ev_const _ _)) ?_ | refine xv (ex_pickAnd (ev_at rfl) (ev_at rfl) (ev_const _ _)) ?_); refine wl_nil ?_)
        | ((with_reducible apply wp_region_plain (id := 44)); refine xv (ex_move (ev_at rfl)) ?_; refine xv (ex_move (ev_at rfl)) ?_; refine xv (ex_move (ev_at rfl)) ?_; refine xv (ex_move (ev_at rfl)) ?_; refine xv (ex_move (ev_at rfl)) ?_; refine wl_of rfl (wp_callL (cbT rfl) (EvL.c (ev_at rfl) (EvL.c (ev_at rfl) (EvL.c (ev_at rfl) (EvL.c (ev_at rfl) (EvL.c (ev_at rfl) EvL.n))))) ?_); refine (hsy2 (by omega) (by omega) _ (by first | exact hS | (rw [e12 (by omega)] at hS; exact hS) | (rw [e01 (by omega), e12 (by omega)] at hS; exact hS))).mono ?_; rintro e w ⟨rfl, hS⟩; refine ⟨_, rfl, wl_put (by simp only [lset] <;> rfl) ?_⟩; refine wl_nil ?_)
        | ((fail_if_success (with_reducible apply wp_region_plain)); (fail_if_success (with_reducible apply wp_region_GS)); go_step))
      refine endN (by first | exact .inl rfl | exact .inr rfl) rfl ResL.rn rfl ?_
      refine ⟨rfl, ?_⟩
      rw [f4]
      first | exact hS | (rw [e23 (by omega)] at hS; exact hS) | (rw [e12 (by omega), e23 (by omega)] at hS; exact hS) | (rw [e01 (by omega), e12 (by omega), e23 (by omega)] at hS; exact hS)
set_option maxHeartbeats 16000000 in
theorem stable_ct (hO : Ord lt) (hE : ElT enc 34) (v : Value) (cf : FuncId) (cap : List Value) (hcb : callB Try.prog cf = true) (hc : CmpOk I L cf cap enc lt) (n : Nat) (hn2 : n ≤ 1099511627) (w : World) (l : List α) (hn : l.length = n)
    (hS : Sat w I (Row v 44 34 n (flatE enc l) :: L)) :
    Calls Try.prog 55 #[v, .int .i64 n, .func (.func cf) #[] cap.toArray] w fun e w' => e = .returned (.tuple #[]) ∧ Sat w' I (Row v 44 34 n (flatE enc (ssort lt l)) :: L) := by
  go_enter Try.func55, Try.ntmps55
  repeat' (first
    | ((with_reducible apply wp_region_plain (id := 0)); refine xv (ex_assign (ev_const _ _)) ?_; refine wl_nil ?_)
    | ((with_reducible apply wp_region_plain (id := 1)); refine xv (ex_move (ev_at rfl)) ?_; refine xv (ex_assign (ev_const _ _)) ?_; refine xv (ex_assign (ev_at rfl)) ?_; refine wl_nil ?_)
    | ((with_reducible apply wp_region_plain (id := 2)); refine xv (ex_move (ev_at rfl)) ?_; refine xv (ex_move (ev_at rfl)) ?_; refine xv (ex_cmp (ev_at rfl) (ev_at rfl) (by first | exact leqT (by omega) | exact leqF (by omega) | rfl)) ?_; refine wl_nil ?_)
    | ((with_reducible apply wp_region_plain (id := 3)); refine xv (ex_move (ev_at rfl)) ?_; refine xv (ex_move (ev_at rfl)) ?_; refine xv (ex_move (ev_at rfl)) ?_; refine xv (ex_move (ev_at rfl)) ?_; fail "no contract for slices.insertionSortCmpFunc[bulletin/spool.Entry] (58)"; refine wl_nil ?_)
    | ((with_reducible apply wp_region_plain (id := 4)); refine xv (ex_move (ev_at rfl)) ?_; refine xv (ex_assign (ev_at rfl)) ?_; refine wl_nil ?_)
    | ((with_reducible apply wp_region_plain (id := 5)); refine xv (ex_move (ev_at rfl)) ?_; refine xv (ex_move (ev_at rfl)) ?_; refine xv (ex_arith (ev_at rfl) (ev_at rfl) rfl (by first | exact IntWalk.i64_in _ (by omega) | rfl)) ?_; refine xv (ex_assign (ev_at rfl)) ?_; refine wl_nil ?_)
    | ((with_reducible apply wp_region_plain (id := 6)); refine xv (ex_move (ev_at rfl)) ?_; refine xv (ex_move (ev_at rfl)) ?_; refine xv (ex_move (ev_at rfl)) ?_; refine xv (ex_move (ev_at rfl)) ?_; fail "no contract for slices.insertionSortCmpFunc[bulletin/spool.Entry] (58)"; refine wl_nil ?_)
    | ((with_reducible apply wp_region_plain (id := 7)); refine xv (ex_move (ev_at rfl)) ?_; refine xv (ex_move (ev_at rfl)) ?_; refine xv (ex_cmp (ev_at rfl) (ev_at rfl) (by first | exact lssT (by omega) | exact lssF (by omega) | rfl)) ?_; refine wl_nil ?_)
    | ((with_reducible apply wp_region_plain (id := 8)); refine xv (ex_move (ev_at rfl)) ?_; refine xv (ex_arith (ev_const _ _) (ev_at rfl) rfl (by first | exact IntWalk.i64_in _ (by omega) | rfl)) ?_; refine xv (ex_assign (ev_const _ _)) ?_; refine xv (ex_assign (ev_at rfl)) ?_; refine wl_nil ?_)
    | ((with_reducible apply wp_region_plain (id := 9)); refine xv (ex_move (ev_at rfl)) ?_; refine xv (ex_move (ev_at rfl)) ?_; refine xv (ex_cmp (ev_at rfl) (ev_at rfl) (by first | exact leqT (by omega) | exact leqF (by omega) | rfl)) ?_; refine wl_nil ?_)
    | ((with_reducible apply wp_region_plain (id := 10)); refine xv (ex_move (ev_at rfl)) ?_; refine xv (ex_move (ev_at rfl)) ?_; refine xv (ex_move (ev_at rfl)) ?_; refine xv (ex_move (ev_at rfl)) ?_; refine xv (ex_arith (ev_at rfl) (ev_at rfl) rfl (by first | exact IntWalk.i64_in _ (by omega) | rfl)) ?_; refine xv (ex_move (ev_at rfl)) ?_; refine xv (ex_move (ev_at rfl)) ?_; fail "no contract for slices.symMergeCmpFunc[bulletin/spool.Entry] (59)"; refine wl_nil ?_)
    | ((with_reducible apply wp_region_plain (id := 11)); refine xv (ex_move (ev_at rfl)) ?_; refine xv (ex_assign (ev_at rfl)) ?_; refine wl_nil ?_)
    | ((with_reducible apply wp_region_plain (id := 12)); refine xv (ex_move (ev_at rfl)) ?_; refine xv (ex_move (ev_at rfl)) ?_; refine xv (ex_arith (ev_const _ _) (ev_at rfl) rfl (by first | exact IntWalk.i64_in _ (by omega) | rfl)) ?_; refine xv (ex_arith (ev_at rfl) (ev_at rfl) rfl (by first | exact IntWalk.i64_in _ (by omega) | rfl)) ?_; refine xv (ex_assign (ev_at rfl)) ?_; refine wl_nil ?_)
    | ((with_reducible apply wp_region_plain (id := 13)); refine xv (ex_move (ev_at rfl)) ?_; refine xv (ex_move (ev_at rfl)) ?_; refine xv (ex_arith (ev_at rfl) (ev_at rfl) rfl (by first | exact IntWalk.i64_in _ (by omega) | rfl)) ?_; refine xv (ex_assign (ev_at rfl)) ?_; refine wl_nil ?_)
    | ((with_reducible apply wp_region_plain (id := 14)); refine xv (ex_move (ev_at rfl)) ?_; refine xv (ex_move (ev_at rfl)) ?_; refine xv (ex_cmp (ev_at rfl) (ev_at rfl) (by first | exact lssT (by omega) | exact lssF (by omega) | rfl)) ?_; refine wl_nil ?_)
    | ((with_reducible apply wp_region_plain (id := 15)); refine xv (ex_move (ev_at rfl)) ?_; refine xv (ex_move (ev_at rfl)) ?_; refine xv (ex_move (ev_at rfl)) ?_; refine xv (ex_move (ev_at rfl)) ?_; refine xv (ex_move (ev_at rfl)) ?_; fail "no contract for slices.symMergeCmpFunc[bulletin/spool.Entry] (59)"; refine wl_nil ?_)
    | ((with_reducible apply wp_region_plain (id := 16)); refine xv (ex_move (ev_at rfl)) ?_; refine xv (ex_arith (ev_at rfl) (ev_const _ _) rfl (by first | exact IntWalk.i64_in _ (by omega) | rfl)) ?_; refine xv (ex_assign (ev_at rfl)) ?_; refine wl_nil ?_)
    | ((fail_if_success (with_reducible apply wp_region_plain)); (fail_if_success (with_reducible apply wp_region_GS)); go_step))
  refine wp_loopM [false, false, false, false, false, false, false, true, true, false, false, true, true, true, true, true, true, true, true, true, true, true, true] (fun q f w => ∃ (D R : List α), q = R.length ∧ f 7 = .int .i64 ((D.length : Nat) : Int) ∧ f 8 = .int .i64 ((D.length + 20 : Nat) : Int) ∧ D.length + R.length = n ∧ D ++ sb lt 20 R = sb lt 20 l ∧ Sat w I (Row v 44 34 n (flatE enc (D ++ R)) :: L)) rfl n ⟨[], l, hn.symm, rfl, rfl, by simpa using hn, rfl, hS⟩ ?_
  clear hS
  rintro q f w ⟨D, R, rfl, h7, h8, hDR, hsb, hS⟩
  simp only [havoc, Nat.reduceAdd, h7, h8]
  by_cases hlt : 20 ≤ R.length
  case pos =>
    have hin := fun (w : World) hS => insort_ct (w := w) (I := I) (L := L) hO hE v cf cap hcb hc n D.length (D.length + 20) D (R.take 20) (R.drop 20) rfl (by simp; omega) (by simp; omega) hn2 hS
    repeat' (first
      | ((with_reducible apply wp_region_plain (id := 0)); refine xv (ex_assign (ev_const _ _)) ?_; refine wl_nil ?_)
      | ((with_reducible apply wp_region_plain (id := 1)); refine xv (ex_move (ev_at rfl)) ?_; refine xv (ex_assign (ev_const _ _)) ?_; refine xv (ex_assign (ev_at rfl)) ?_; refine wl_nil ?_)
      | ((with_reducible apply wp_region_plain (id := 2)); refine xv (ex_move (ev_at rfl)) ?_; refine xv (ex_move (ev_at rfl)) ?_; refine xv (ex_cmp (ev_at rfl) (ev_at rfl) (by first | exact leqT (by omega) | exact leqF (by omega) | rfl)) ?_; refine wl_nil ?_)
      | ((with_reducible apply wp_region_plain (id := 3)); refine xv (ex_move (ev_at rfl)) ?_; refine xv (ex_move (ev_at rfl)) ?_; refine xv (ex_move (ev_at rfl)) ?_; refine xv (ex_move (ev_at rfl)) ?_; refine wl_of rfl (wp_callL (cbT rfl) (EvL.c (ev_at rfl) (EvL.c (ev_at rfl) (EvL.c (ev_at rfl) (EvL.c (ev_at rfl) EvL.n)))) ?_); refine (hin _ (by rw [List.append_assoc, List.take_append_drop]; exact hS)).mono ?_; rintro e w ⟨rfl, hS⟩; refine ⟨_, rfl, wl_put (by simp only [lset] <;> rfl) ?_⟩; refine wl_nil ?_)
      | ((with_reducible apply wp_region_plain (id := 4)); refine xv (ex_move (ev_at rfl)) ?_; refine xv (ex_assign (ev_at rfl)) ?_; refine wl_nil ?_)
      | ((with_reducible apply wp_region_plain (id := 5)); refine xv (ex_move (ev_at rfl)) ?_; refine xv (ex_move (ev_at rfl)) ?_; refine xv (ex_arith (s := ((D.length + 20 + 20 : Nat) : Int)) (ev_at rfl) (ev_at rfl) rfl (by rw [IntWalk.i64_in _ (by omega)]; omega)) ?_; refine xv (ex_assign (ev_at rfl)) ?_; refine wl_nil ?_)
      | ((fail_if_success (with_reducible apply wp_region_plain)); (fail_if_success (with_reducible apply wp_region_GS)); go_step))
    have hl20 : (ssort lt (R.take 20)).length = 20 := by rw [ssort_length]; simp; omega
    refine loopEndM rfl (R.drop 20).length ⟨D ++ ssort lt (R.take 20), R.drop 20, rfl, (by rw [List.length_append, hl20]; rfl), (by rw [List.length_append, hl20]; rfl), by rw [List.length_append, hl20]; simp; omega, ?_, hS⟩ (by simp; omega)
    rw [← hsb, sb_step (by omega) hlt, List.append_assoc]
  have hin := fun (w : World) hS => insort_ct (w := w) (I := I) (L := L) hO hE v cf cap hcb hc n D.length n D R [] rfl hDR.symm (by simp; omega) hn2 hS
  repeat' (first
    | ((with_reducible apply wp_region_plain (id := 0)); refine xv (ex_assign (ev_const _ _)) ?_; refine wl_nil ?_)
    | ((with_reducible apply wp_region_plain (id := 1)); refine xv (ex_move (ev_at rfl)) ?_; refine xv (ex_assign (ev_const _ _)) ?_; refine xv (ex_assign (ev_at rfl)) ?_; refine wl_nil ?_)
    | ((with_reducible apply wp_region_plain (id := 2)); refine xv (ex_move (ev_at rfl)) ?_; refine xv (ex_move (ev_at rfl)) ?_; refine xv (ex_cmp (ev_at rfl) (ev_at rfl) (by first | exact leqT (by omega) | exact leqF (by omega) | rfl)) ?_; refine wl_nil ?_)
    | ((with_reducible apply wp_region_plain (id := 6)); refine xv (ex_move (ev_at rfl)) ?_; refine xv (ex_move (ev_at rfl)) ?_; refine xv (ex_move (ev_at rfl)) ?_; refine xv (ex_move (ev_at rfl)) ?_; refine wl_of rfl (wp_callL (cbT rfl) (EvL.c (ev_at rfl) (EvL.c (ev_at rfl) (EvL.c (ev_at rfl) (EvL.c (ev_at rfl) EvL.n)))) ?_); refine (hin _ (by rw [List.append_nil]; exact hS)).mono ?_; rintro e w ⟨rfl, hS⟩; refine ⟨_, rfl, wl_put (by simp only [lset] <;> rfl) ?_⟩; refine wl_nil ?_)
    | ((fail_if_success (with_reducible apply wp_region_plain)); (fail_if_success (with_reducible apply wp_region_GS)); go_step))
  rw [List.append_nil, ← sb_small (bs := 20) (by omega), hsb] at hS
  clear hin hsb hDR h7 h8
  refine wp_loopM [false, false, false, false, false, false, true, true, true, true, false, false, false, false, false, false, false, false, false, false, false, false, false, false, false, false, false, false, true, true, true, true, true, true, true, true, true, true, true, true, true, true, true, true, true, true, true, true, true, true, true, true, true, true, true, true, true, true, true, true, true, true, true] (fun q f w => ∃ (bs : Nat), q = n - bs ∧ f 6 = .int .i64 (bs : Int) ∧ 20 ≤ bs ∧ bs ≤ 2 * n + 20 ∧ Sat w I (Row v 44 34 n (flatE enc (sb lt bs l)) :: L)) rfl (n - 20) ⟨20, rfl, rfl, by omega, by omega, hS⟩ ?_
  clear hS
  rintro q f w ⟨bs, rfl, h6, hb1, hb2, hS⟩
  simp only [havoc, Nat.reduceAdd, h6]
  by_cases hlt2 : bs < n
  case neg =>
    repeat' (first
      | ((with_reducible apply wp_region_plain (id := 0)); refine xv (ex_assign (ev_const _ _)) ?_; refine wl_nil ?_)
      | ((with_reducible apply wp_region_plain (id := 1)); refine xv (ex_move (ev_at rfl)) ?_; refine xv (ex_assign (ev_const _ _)) ?_; refine xv (ex_assign (ev_at rfl)) ?_; refine wl_nil ?_)
      | ((with_reducible apply wp_region_plain (id := 2)); refine xv (ex_move (ev_at rfl)) ?_; refine xv (ex_move (ev_at rfl)) ?_; refine xv (ex_cmp (ev_at rfl) (ev_at rfl) (by first | exact leqT (by omega) | exact leqF (by omega) | rfl)) ?_; refine wl_nil ?_)
      | ((with_reducible apply wp_region_plain (id := 7)); refine xv (ex_move (ev_at rfl)) ?_; refine xv (ex_move (ev_at rfl)) ?_; refine xv (ex_cmp (ev_at rfl) (ev_at rfl) (by first | exact lssT (by omega) | exact lssF (by omega) | rfl)) ?_; refine wl_nil ?_)
      | ((fail_if_success (with_reducible apply wp_region_plain)); (fail_if_success (with_reducible apply wp_region_GS)); go_step))
    refine endN (by first | exact .inl rfl | exact .inr rfl) rfl ResL.rn rfl ?_
    rw [sb_small (by omega)] at hS
    exact ⟨rfl, hS⟩
  repeat' (first
    | ((with_reducible apply wp_region_plain (id := 0)); refine xv (ex_assign (ev_const _ _)) ?_; refine wl_nil ?_)
    | ((with_reducible apply wp_region_plain (id := 1)); refine xv (ex_move (ev_at rfl)) ?_; refine xv (ex_assign (ev_const _ _)) ?_; refine xv (ex_assign (ev_at rfl)) ?_; refine wl_nil ?_)
    | ((with_reducible apply wp_region_plain (id := 2)); refine xv (ex_move (ev_at rfl)) ?_; refine xv (ex_move (ev_at rfl)) ?_; refine xv (ex_cmp (ev_at rfl) (ev_at rfl) (by first | exact leqT (by omega) | exact leqF (by omega) | rfl)) ?_; refine wl_nil ?_)
    | ((with_reducible apply wp_region_plain (id := 7)); refine xv (ex_move (ev_at rfl)) ?_; refine xv (ex_move (ev_at rfl)) ?_; refine xv (ex_cmp (ev_at rfl) (ev_at rfl) (by first | exact lssT (by omega) | exact lssF (by omega) | rfl)) ?_; refine wl_nil ?_)
    | ((with_reducible apply wp_region_plain (id := 8)); refine xv (ex_move (ev_at rfl)) ?_; refine xv (ex_arith (s := ((2 * bs : Nat) : Int)) (ev_const _ _) (ev_at rfl) rfl (by rw [IntWalk.i64_in _ (by omega)]; omega)) ?_; refine xv (ex_assign (ev_const _ _)) ?_; refine xv (ex_assign (ev_at rfl)) ?_; refine wl_nil ?_)
    | ((fail_if_success (with_reducible apply wp_region_plain)); (fail_if_success (with_reducible apply wp_region_GS)); go_step))
  refine wp_loopM [false, false, false, false, false, false, false, true, true, false, false, false, false, false, false, false, false, false, false, false, false, false, false, false, false, false, false, false, false, false, false, false, false, true, true, true, true, true, true, true, true, true, true, true, true, true, true, true, true] (fun q f w => ∃ (D R : List α), q = R.length ∧ f 7 = .int .i64 ((D.length : Nat) : Int) ∧ f 8 = .int .i64 ((D.length + 2 * bs : Nat) : Int) ∧ D.length + R.length = n ∧ D ++ sb lt (2 * bs) R = sb lt (2 * bs) l ∧ Sat w I (Row v 44 34 n (flatE enc (D ++ sb lt bs R)) :: L)) rfl n ⟨[], l, hn.symm, rfl, (by rw [List.length_nil, Nat.zero_add]; rfl), by simpa using hn, rfl, hS⟩ ?_
  clear hS
  rintro q f w ⟨D, R, rfl, h7, h8, hDR, hsb, hS⟩
  simp only [havoc, Nat.reduceAdd, h7, h8]
  by_cases hlt3 : 2 * bs ≤ R.length
  case pos =>
    have e1 : sb lt bs R = ssort lt (R.take bs) ++ (ssort lt ((R.drop bs).take bs) ++ sb lt bs (R.drop (2 * bs))) := by
      rw [sb_step (by omega) (by omega), sb_step (l := R.drop bs) (by omega) (by simp; omega), List.drop_drop, show bs + bs = 2 * bs by omega]
    have e2 : mrg lt (ssort lt (R.take bs)) (ssort lt ((R.drop bs).take bs)) = ssort lt (R.take (2 * bs)) := by
      rw [mrg_ssort2 hO, show R.take bs ++ (R.drop bs).take bs = R.take (2 * bs) by rw [← List.take_add, show bs + bs = 2 * bs by omega]]
    have l1 : (ssort lt (R.take bs)).length = bs := by rw [ssort_length]; simp; omega
    have l2 : (ssort lt ((R.drop bs).take bs)).length = bs := by rw [ssort_length]; simp; omega
    have l3 := sb_length (lt := lt) (bs := bs) (by omega) _ (R.drop (2 * bs)) rfl
    simp only [List.length_drop] at l3
    have hsy := fun (w : World) hS => sym_ct hO hE v cf cap hcb hc n hn2 _ w D.length (D.length + bs) (D.length + 2 * bs) D (ssort lt (R.take bs)) (ssort lt ((R.drop bs).take bs)) (sb lt bs (R.drop (2 * bs))) rfl rfl (by omega) (by omega) (by omega) (by omega) (ssort_srt hO _) (ssort_srt hO _) (by simp only [List.length_append]; omega) hS
    rw [e2] at hsy
    rw [e1] at hS
    repeat' (first
      | ((with_reducible apply wp_region_plain (id := 0)); refine xv (ex_assign (ev_const _ _)) ?_; refine wl_nil ?_)
      | ((with_reducible apply wp_region_plain (id := 1)); refine xv (ex_move (ev_at rfl)) ?_; refine xv (ex_assign (ev_const _ _)) ?_; refine xv (ex_assign (ev_at rfl)) ?_; refine wl_nil ?_)
      | ((with_reducible apply wp_region_plain (id := 2)); refine xv (ex_move (ev_at rfl)) ?_; refine xv (ex_move (ev_at rfl)) ?_; refine xv (ex_cmp (ev_at rfl) (ev_at rfl) (by first | exact leqT (by omega) | exact leqF (by omega) | rfl)) ?_; refine wl_nil ?_)
      | ((with_reducible apply wp_region_plain (id := 9)); refine xv (ex_move (ev_at rfl)) ?_; refine xv (ex_move (ev_at rfl)) ?_; refine xv (ex_cmp (ev_at rfl) (ev_at rfl) (by first | exact leqT (by omega) | exact leqF (by omega) | rfl)) ?_; refine wl_nil ?_)
      | ((with_reducible apply wp_region_plain (id := 10)); refine xv (ex_move (ev_at rfl)) ?_; refine xv (ex_move (ev_at rfl)) ?_; refine xv (ex_move (ev_at rfl)) ?_; refine xv (ex_move (ev_at rfl)) ?_; refine xv (ex_arith (s := ((D.length + bs : Nat) : Int)) (ev_at rfl) (ev_at rfl) rfl (by rw [IntWalk.i64_in _ (by omega)]; omega)) ?_; refine xv (ex_move (ev_at rfl)) ?_; refine xv (ex_move (ev_at rfl)) ?_; refine wl_of rfl (wp_callL (cbT rfl) (EvL.c (ev_at rfl) (EvL.c (ev_at rfl) (EvL.c (ev_at rfl) (EvL.c (ev_at rfl) (EvL.c (ev_at rfl) EvL.n))))) ?_); refine (hsy _ (by simpa only [List.append_assoc] using hS)).mono ?_; rintro e w ⟨rfl, hS⟩; refine ⟨_, rfl, wl_put (by simp only [lset] <;> rfl) ?_⟩; refine wl_nil ?_)
      | ((with_reducible apply wp_region_plain (id := 11)); refine xv (ex_move (ev_at rfl)) ?_; refine xv (ex_assign (ev_at rfl)) ?_; refine wl_nil ?_)
      | ((with_reducible apply wp_region_plain (id := 12)); refine xv (ex_move (ev_at rfl)) ?_; refine xv (ex_move (ev_at rfl)) ?_; refine xv (ex_arith (s := ((2 * bs : Nat) : Int)) (ev_const _ _) (ev_at rfl) rfl (by rw [IntWalk.i64_in _ (by omega)]; omega)) ?_; refine xv (ex_arith (s := ((D.length + 2 * bs + 2 * bs : Nat) : Int)) (ev_at rfl) (ev_at rfl) rfl (by rw [IntWalk.i64_in _ (by omega)]; omega)) ?_; refine xv (ex_assign (ev_at rfl)) ?_; refine wl_nil ?_)
      | ((fail_if_success (with_reducible apply wp_region_plain)); (fail_if_success (with_reducible apply wp_region_GS)); go_step))
    have l4 : (ssort lt (R.take (2 * bs))).length = 2 * bs := by rw [ssort_length]; simp; omega
    refine loopEndM rfl (R.drop (2 * bs)).length ⟨D ++ ssort lt (R.take (2 * bs)), R.drop (2 * bs), rfl, (by rw [List.length_append, l4]; rfl), (by rw [List.length_append, l4]; rfl), by rw [List.length_append, l4]; simp; omega, ?_, hS⟩ (by simp; omega)
    rw [← hsb, sb_step (bs := 2 * bs) (by omega) hlt3, List.append_assoc]
  have hfin : ∀ (w : World), Sat w I (Row v 44 34 n (flatE enc (D ++ ssort lt R)) :: L) → Sat w I (Row v 44 34 n (flatE enc (sb lt (bs * 2) l)) :: L) := by
    intro w h
    rw [Nat.mul_comm, ← hsb, sb_small (by omega)]; exact h
  by_cases hlt4 : bs < R.length
  case neg =>
    rw [sb_small (by omega)] at hS
    repeat' (first
      | ((with_reducible apply wp_region_plain (id := 0)); refine xv (ex_assign (ev_const _ _)) ?_; refine wl_nil ?_)
      | ((with_reducible apply wp_region_plain (id := 1)); refine xv (ex_move (ev_at rfl)) ?_; refine xv (ex_assign (ev_const _ _)) ?_; refine xv (ex_assign (ev_at rfl)) ?_; refine wl_nil ?_)
      | ((with_reducible apply wp_region_plain (id := 2)); refine xv (ex_move (ev_at rfl)) ?_; refine xv (ex_move (ev_at rfl)) ?_; refine xv (ex_cmp (ev_at rfl) (ev_at rfl) (by first | exact leqT (by omega) | exact leqF (by omega) | rfl)) ?_; refine wl_nil ?_)
      | ((with_reducible apply wp_region_plain (id := 9)); refine xv (ex_move (ev_at rfl)) ?_; refine xv (ex_move (ev_at rfl)) ?_; refine xv (ex_cmp (ev_at rfl) (ev_at rfl) (by first | exact leqT (by omega) | exact leqF (by omega) | rfl)) ?_; refine wl_nil ?_)
      | ((with_reducible apply wp_region_plain (id := 13)); refine xv (ex_move (ev_at rfl)) ?_; refine xv (ex_move (ev_at rfl)) ?_; refine xv (ex_arith (s := ((D.length + bs : Nat) : Int)) (ev_at rfl) (ev_at rfl) rfl (by rw [IntWalk.i64_in _ (by omega)]; omega)) ?_; refine xv (ex_assign (ev_at rfl)) ?_; refine wl_nil ?_)
      | ((with_reducible apply wp_region_plain (id := 14)); refine xv (ex_move (ev_at rfl)) ?_; refine xv (ex_move (ev_at rfl)) ?_; refine xv (ex_cmp (ev_at rfl) (ev_at rfl) (by first | exact lssT (by omega) | exact lssF (by omega) | rfl)) ?_; refine wl_nil ?_)
      | ((with_reducible apply wp_region_plain (id := 16)); refine xv (ex_move (ev_at rfl)) ?_; refine xv (ex_arith (s := ((bs * 2 : Nat) : Int)) (ev_at rfl) (ev_const _ _) rfl (by rw [IntWalk.i64_in _ (by omega)]; omega)) ?_; refine xv (ex_assign (ev_at rfl)) ?_; refine wl_nil ?_)
      | ((fail_if_success (with_reducible apply wp_region_plain)); (fail_if_success (with_reducible apply wp_region_GS)); go_step))
    exact loopEndM rfl (n - bs * 2) ⟨bs * 2, rfl, rfl, by omega, by omega, hfin _ hS⟩ (by omega)
  have e1 : sb lt bs R = ssort lt (R.take bs) ++ ssort lt (R.drop bs) := by
    rw [sb_step (by omega) (by omega), sb_small (l := R.drop bs) (by simp; omega)]
  have e2 : mrg lt (ssort lt (R.take bs)) (ssort lt (R.drop bs)) = ssort lt R := by rw [mrg_ssort2 hO, List.take_append_drop]
  have l1 : (ssort lt (R.take bs)).length = bs := by rw [ssort_length]; simp; omega
  have l2 : (ssort lt (R.drop bs)).length = R.length - bs := by rw [ssort_length]; simp
  have hsy := fun (w : World) hS => sym_ct hO hE v cf cap hcb hc n hn2 _ w D.length (D.length + bs) n D (ssort lt (R.take bs)) (ssort lt (R.drop bs)) [] rfl rfl (by omega) (by omega) (by omega) (by omega) (ssort_srt hO _) (ssort_srt hO _) (by simp only [List.length_append, List.length_nil]; omega) hS
  rw [e2] at hsy
  rw [e1] at hS
  repeat' (first
    | ((with_reducible apply wp_region_plain (id := 0)); refine xv (ex_assign (ev_const _ _)) ?_; refine wl_nil ?_)
    | ((with_reducible apply wp_region_plain (id := 1)); refine xv (ex_move (ev_at rfl)) ?_; refine xv (ex_assign (ev_const _ _)) ?_; refine xv (ex_assign (ev_at rfl)) ?_; refine wl_nil ?_)
    | ((with_reducible apply wp_region_plain (id := 2)); refine xv (ex_move (ev_at rfl)) ?_; refine xv (ex_move (ev_at rfl)) ?_; refine xv (ex_cmp (ev_at rfl) (ev_at rfl) (by first | exact leqT (by omega) | exact leqF (by omega) | rfl)) ?_; refine wl_nil ?_)
    | ((with_reducible apply wp_region_plain (id := 9)); refine xv (ex_move (ev_at rfl)) ?_; refine xv (ex_move (ev_at rfl)) ?_; refine xv (ex_cmp (ev_at rfl) (ev_at rfl) (by first | exact leqT (by omega) | exact leqF (by omega) | rfl)) ?_; refine wl_nil ?_)
    | ((with_reducible apply wp_region_plain (id := 13)); refine xv (ex_move (ev_at rfl)) ?_; refine xv (ex_move (ev_at rfl)) ?_; refine xv (ex_arith (s := ((D.length + bs : Nat) : Int)) (ev_at rfl) (ev_at rfl) rfl (by rw [IntWalk.i64_in _ (by omega)]; omega)) ?_; refine xv (ex_assign (ev_at rfl)) ?_; refine wl_nil ?_)
    | ((with_reducible apply wp_region_plain (id := 14)); refine xv (ex_move (ev_at rfl)) ?_; refine xv (ex_move (ev_at rfl)) ?_; refine xv (ex_cmp (ev_at rfl) (ev_at rfl) (by first | exact lssT (by omega) | exact lssF (by omega) | rfl)) ?_; refine wl_nil ?_)
    | ((with_reducible apply wp_region_plain (id := 15)); refine xv (ex_move (ev_at rfl)) ?_; refine xv (ex_move (ev_at rfl)) ?_; refine xv (ex_move (ev_at rfl)) ?_; refine xv (ex_move (ev_at rfl)) ?_; refine xv (ex_move (ev_at rfl)) ?_; refine wl_of rfl (wp_callL (cbT rfl) (EvL.c (ev_at rfl) (EvL.c (ev_at rfl) (EvL.c (ev_at rfl) (EvL.c (ev_at rfl) (EvL.c (ev_at rfl) EvL.n))))) ?_); refine (hsy _ (by simpa only [List.append_assoc, List.append_nil] using hS)).mono ?_; rintro e w ⟨rfl, hS⟩; rw [List.append_nil] at hS; refine ⟨_, rfl, wl_put (by simp only [lset] <;> rfl) ?_⟩; refine wl_nil ?_)
    | ((with_reducible apply wp_region_plain (id := 16)); refine xv (ex_move (ev_at rfl)) ?_; refine xv (ex_arith (s := ((bs * 2 : Nat) : Int)) (ev_at rfl) (ev_const _ _) rfl (by rw [IntWalk.i64_in _ (by omega)]; omega)) ?_; refine xv (ex_assign (ev_at rfl)) ?_; refine wl_nil ?_)
    | ((fail_if_success (with_reducible apply wp_region_plain)); (fail_if_success (with_reducible apply wp_region_GS)); go_step))
  exact loopEndM rfl (n - bs * 2) ⟨bs * 2, rfl, rfl, by omega, by omega, hfin _ hS⟩ (by omega)
theorem sortStable_ct (hO : Ord lt) (hE : ElT enc 34) (v : Value) (cf : FuncId) (cap : List Value) (hcb : callB Try.prog cf = true) (hc : CmpOk I L cf cap enc lt) (n : Nat) (hn2 : n ≤ 1099511627) (w : World) (l : List α) (hn : l.length = n)
    (hS : Sat w I (Row v 44 34 n (flatE enc l) :: L)) :
    Calls Try.prog 41 #[v, .func (.func cf) #[] cap.toArray] w fun e w' => e = .returned (.tuple #[]) ∧ Sat w' I (Row v 44 34 n (flatE enc (ssort lt l)) :: L) := by
  have hvi := (hS.rowH (v := v)).1
  go_enter Try.func41, Try.ntmps41
  repeat' (first
    | ((with_reducible apply wp_region_plain (id := 0)); refine xv (ex_move (ev_at rfl)) ?_; refine xv (ex_move (ev_at rfl)) ?_; refine xv (ex_len (ev_at rfl) (slT rfl) (by first | assumption | exact IsSl.nil)) ?_; refine xv (ex_move (ev_at rfl)) ?_; refine wl_of rfl (wp_callL (cbT rfl) (EvL.c (ev_at rfl) (EvL.c (ev_at rfl) (EvL.c (ev_at rfl) EvL.n))) ?_); refine (stable_ct hO hE v cf cap hcb hc n hn2 _ l hn hS).mono ?_; rintro e w ⟨rfl, hS⟩; refine ⟨_, rfl, wl_put (by simp only [lset] <;> rfl) ?_⟩; refine wl_nil ?_)
    | ((fail_if_success (with_reducible apply wp_region_plain)); (fail_if_success (with_reducible apply wp_region_GS)); go_step))
  refine endN (by first | exact .inl rfl | exact .inr rfl) rfl ResL.rn rfl ?_
  exact ⟨rfl, hS⟩
end
end Go.Proofs.Try
