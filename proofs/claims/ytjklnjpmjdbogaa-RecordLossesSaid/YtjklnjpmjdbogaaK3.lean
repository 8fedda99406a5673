/- RecordScans, RecordSalvages. -/
import Derived.Test.YtjklnjpmjdbogaaK2
namespace Go.Proofs.Try
open Go.RowKit Go.SL Go.SH Go.RC
set_option maxRecDepth 100000
set_option linter.unusedSimpArgs false
set_option linter.unusedVariables false
section
variable {w : World} {I : Gh} {L : List Ch}
theorem scan_len : ∀ (F : Nat) (g n : Int) (l : List (List UInt8)), (scan F g n l).1.length ≤ F
  | 0, _, _, _ => by simp [scan]
  | F + 1, g, n, l => by
    rw [scan]
    repeat' split
    all_goals first | (simp; done) | (have := scan_len F g (n + 1) (l.drop (join l).2.1.toNat); simp only [List.length_cons]; omega)
theorem scanAll_len (g n : Int) (l : List (List UInt8)) : (scanAll g n l).1.length ≤ l.length + 1 := by
  rw [scanAll]
  split
  · simp
  · exact scan_len _ _ _ _
theorem salvage_len : ∀ (F : Nat) (l : List (List UInt8)), (salvage F l).length ≤ F
  | 0, _ => by simp [salvage]
  | F + 1, l => by
    rw [salvage]
    repeat' split
    all_goals first | (simp; done) | (have := salvage_len F l.tail; omega) | (have := salvage_len F (l.drop (join l).2.1.toNat); simp only [List.length_cons]; omega)
theorem RecI.mono {I J : Gh} {v : Value} {rs : List RecS} (h : RecI I v rs) (hle : I.le J) : RecI J v rs := let ⟨cs, a, b⟩ := h; ⟨cs, a.mono hle, b.mono hle⟩
theorem RunOk.mono {I J : Gh} {x : RunS} (h : RunOk I x) (hle : I.le J) : RunOk J x := by
  obtain ⟨⟨a1, cs, a2, a3⟩, ⟨b1, ds, b2, b3⟩, c1, c2⟩ := h
  exact ⟨⟨a1, cs, a2.mono hle, fun i p hi => let ⟨u, x, y, z⟩ := a3 i p hi; ⟨u, x, y, z.mono hle⟩⟩, ⟨b1, ds, b2.mono hle, fun i x hi => ⟨(b3 i x hi).1, (b3 i x hi).2.mono hle⟩⟩, c1, c2.mono hle⟩
set_option maxHeartbeats 16000000 in
theorem recordScans_ct (x : RunS) (g n : Int) (hx : RunOk I x) (hS : Sat w I []) :
    Calls Try.prog 11 #[.agg (runCells x).toArray, .int .i64 g, .int .i64 n] w fun e w' => e = .returned (.bool true) ∧ Sat w' I [] := by
  have hrn := fun (w : World) (L2 : List Ch) hS => run_ct (w := w) (I := I) (L := L2) x hx hS
  have hcl : (runCells x).length = 6 := rfl
  generalize runCells x = rc at hrn hcl
  go_enter Try.func11, Try.ntmps11
  repeat' (first
    | ((with_reducible apply wp_region_plain (id := 0)); refine wl_of rfl (wp_boxN (ev_at rfl) hS fun b3 w hS => wl_put (by simp only [lset] <;> rfl) ?_); refine xv (ex_assign (ev_const _ _)) ?_; refine wl_nil ?_)
    | ((with_reducible apply wp_region_plain (id := 1)); refine xv (ex_load (ev_at rfl) (ldW hS (kdT rfl) (szT rfl) hcl)) ?_; refine wl_of rfl (wp_callL (cbT rfl) (EvL.c (ev_at rfl) EvL.n) ?_); refine (hrn _ _ hS).mono ?_; rintro e w ⟨J, u, ls, rfl, hJ, hse, hll, hl256, -, hS⟩; refine ⟨_, rfl, wl_put (by simp only [lset] <;> rfl) ?_⟩; refine xv (ex_assign (ev_at rfl)) ?_; refine wl_nil ?_)
    | ((fail_if_success (with_reducible apply wp_region_plain)); (fail_if_success (with_reducible apply wp_region_GS)); go_step))
  have hs1 := fun (w : World) (J2 : Gh) (L2 : List Ch) (hJ2 : J.le J2) hS => scan_ct (w := w) (I := J2) (L := L2) u ls g n (hse.mono hJ2) (fun l hl => by have := hl256 l hl; omega) (by omega) hS
  have hs2 := fun (w : World) (J2 : Gh) (L2 : List Ch) (hJ2 : J.le J2) hS => rscan_ct (w := w) (I := J2) (L := L2) u ls g n (hse.mono hJ2) (fun l hl => by have := hl256 l hl; omega) (by omega) hS
  have hrl := scanAll_len g n ls
  generalize scanAll g n ls = X at hs1 hs2 hrl
  obtain ⟨rs, k, e0⟩ := X
  simp only at hs1 hs2 hrl
  repeat' (first
    | ((with_reducible apply wp_region_plain (id := 2)); refine xv (ex_move (ev_at rfl)) ?_; refine xv (ex_move (ev_at rfl)) ?_; refine xv (ex_move (ev_at rfl)) ?_; refine wl_of rfl (wp_callL (cbT rfl) (EvL.c (ev_at rfl) (EvL.c (ev_at rfl) (EvL.c (ev_at rfl) EvL.n))) ?_); refine (hs1 _ _ _ (Gh.le.refl _) hS).mono ?_; rintro e w ⟨J2, u1, rfl, hJ2, hr1, hS⟩; refine ⟨_, rfl, wl_put (by simp only [lset] <;> rfl) ?_⟩; refine xv (ex_move (ev_at rfl)) ?_; refine xv (ex_extract (ev_at rfl) rfl) ?_; refine xv (ex_extract (ev_at rfl) rfl) ?_; refine xv (ex_extract (ev_at rfl) rfl) ?_; refine xv (ex_assign (ev_at rfl)) ?_; refine xv (ex_assign (ev_at rfl)) ?_; refine xv (ex_assign (ev_at rfl)) ?_; refine wl_nil ?_)
    | ((with_reducible apply wp_region_plain (id := 3)); refine xv (ex_move (ev_at rfl)) ?_; refine xv (ex_move (ev_at rfl)) ?_; refine xv (ex_move (ev_at rfl)) ?_; refine wl_of rfl (wp_callL (cbT rfl) (EvL.c (ev_at rfl) (EvL.c (ev_at rfl) (EvL.c (ev_at rfl) EvL.n))) ?_); refine (hs2 _ _ _ hJ2 hS).mono ?_; rintro e w ⟨J3, u2, rfl, hJ3, hr2, hS⟩; refine ⟨_, rfl, wl_put (by simp only [lset] <;> rfl) ?_⟩; refine xv (ex_move (ev_at rfl)) ?_; refine xv (ex_extract (ev_at rfl) rfl) ?_; refine xv (ex_extract (ev_at rfl) rfl) ?_; refine xv (ex_extract (ev_at rfl) rfl) ?_; refine xv (ex_assign (ev_at rfl)) ?_; refine xv (ex_assign (ev_at rfl)) ?_; refine xv (ex_assign (ev_at rfl)) ?_; refine wl_nil ?_)
    | ((with_reducible apply wp_region_plain (id := 4)); refine wl_of rfl (wp_callL (cbT rfl) EvL.n ?_); refine (known_ct hS).mono ?_; rintro e w ⟨rfl, hS⟩; refine ⟨_, rfl, wl_put (by simp only [lset] <;> rfl) ?_⟩; refine xv (ex_move (ev_at rfl)) ?_; (first | refine wl_skip rfl rfl (by simp only [lset] <;> rfl) ?_ | (refine xv (ex_move (ev_at rfl)) ?_)); (first | refine wl_skip rfl rfl (by simp only [lset] <;> rfl) ?_ | (refine xv (ex_move (ev_at rfl)) ?_)); (first | refine wl_skip rfl rfl (by simp only [lset] <;> rfl) ?_ | (refine wl_of rfl (wp_callL (cbT rfl) (EvL.c (ev_at rfl) (EvL.c (ev_at rfl) EvL.n)) ?_); refine (list_ct _ _ _ (hr1.mono hJ3) hr2 (by omega) hS).mono ?_; rintro e w ⟨rfl, hS⟩; refine ⟨_, rfl, wl_put (by simp only [lset] <;> rfl) ?_⟩)); (first | refine xv (ex_pickT (ev_at rfl) (ev_at rfl)) ?_ | refine xv (ex_pickF (ev_at rfl) (ev_const _ _)) ?_ | refine xv (ex_pickAnd (ev_at rfl) (ev_at rfl) (ev_const _ _)) ?_); refine xv (ex_move (ev_at rfl)) ?_; (first | refine wl_skip rfl rfl (by simp only [lset] <;> rfl) ?_ | (refine xv (ex_move (ev_at rfl)) ?_)); (first | refine wl_skip rfl rfl (by simp only [lset] <;> rfl) ?_ | (refine xv (ex_move (ev_at rfl)) ?_)); (first | refine wl_skip rfl rfl (by simp only [lset] <;> rfl) ?_ | (refine xv (ex_cmp (ev_at rfl) (ev_at rfl) (by first | exact eqlT (by omega) | exact eqlF (by omega) | rfl)) ?_)); (first | refine xv (ex_pickT (ev_at rfl) (ev_at rfl)) ?_ | refine xv (ex_pickF (ev_at rfl) (ev_const _ _)) ?_ | refine xv (ex_pickAnd (ev_at rfl) (ev_at rfl) (ev_const _ _)) ?_); refine xv (ex_move (ev_at rfl)) ?_; (first | refine wl_skip rfl rfl (by simp only [lset] <;> rfl) ?_ | (refine xv (ex_move (ev_at rfl)) ?_)); (first | refine wl_skip rfl rfl (by simp only [lset] <;> rfl) ?_ | (refine xv (ex_move (ev_at rfl)) ?_)); (first | refine wl_skip rfl rfl (by simp only [lset] <;> rfl) ?_ | (refine xv (ex_cmp (ev_at rfl) (ev_at rfl) (by first | exact eqlT (by omega) | exact eqlF (by omega) | rfl)) ?_)); (first | refine xv (ex_pickT (ev_at rfl) (ev_at rfl)) ?_ | refine xv (ex_pickF (ev_at rfl) (ev_const _ _)) ?_ | refine xv (ex_pickAnd (ev_at rfl) (ev_at rfl) (ev_const _ _)) ?_); refine xv (ex_assign (ev_at rfl)) ?_; refine wl_nil ?_)
    | ((fail_if_success (with_reducible apply wp_region_plain)); (fail_if_success (with_reducible apply wp_region_GS)); go_step))
  refine end1 (by first | exact .inl rfl | exact .inr rfl) rfl (ResL.rt rfl ResL.rn) ?_
  exact ⟨rfl, hS.drop.anti (hJ.trans (hJ2.trans hJ3))⟩
set_option maxHeartbeats 16000000 in
theorem recordSalvages_ct (x : RunS) (v : Value) (xs : List SecS) (hx : RunOk I x) (hv : SecsOk I v xs) (hS : Sat w I []) :
    Calls Try.prog 14 #[.agg (runCells x).toArray, v] w fun e w' => e = .returned (.bool true) ∧ Sat w' I [] := by
  have hrn := fun (w : World) (J : Gh) (L2 : List Ch) (hJ : I.le J) hS => run_ct (w := w) (I := J) (L := L2) x (hx.mono hJ) hS
  have hcl : (runCells x).length = 6 := rfl
  generalize runCells x = rc at hrn hcl
  have hsx := fun (w : World) (L2 : List Ch) hS => sectors_ct (w := w) (I := I) (L := L2) v xs hv hS
  have fin : ∀ (w : World) (J J2 : Gh) (u t : Value) (vs vs2 : List Value) (ls ls2 : List (List UInt8)) (L2 : List Ch), True := fun _ _ _ _ _ _ _ _ _ _ => trivial
  go_enter Try.func14, Try.ntmps14
  repeat' (first
    | ((with_reducible apply wp_region_plain (id := 0)); refine wl_of rfl (wp_boxN (ev_at rfl) hS fun b2 w hS => wl_put (by simp only [lset] <;> rfl) ?_); refine xv (ex_assign (ev_const _ _)) ?_; refine wl_nil ?_)
    | ((fail_if_success (with_reducible apply wp_region_plain)); (fail_if_success (with_reducible apply wp_region_GS)); go_step))
  have hbox : ∀ (w : World) (J : Gh) (X : List Ch), I.le J → Sat w J (X ++ [Cells b2 75 rc]) → True := fun _ _ _ _ _ => trivial
  refine wp_join [false, false, false, false, false, true, true, true, true, true, true] (fun f w => ∃ (J : Gh) (u : Value) (vs : List Value) (ls : List (List UInt8)), f 5 = u ∧ I.le J ∧ BytesL J vs ls ∧ ls.length ≤ 30 ∧ (∀ l ∈ ls, l.length = 256) ∧ Sat w J (Row u 22 1 ls.length vs :: [Cells b2 75 rc])) ?_ ?_
  · (with_reducible apply wp_region_GS (id := 1) 6 (fun j => [0, 2, 5].contains j) mixed)
    rfl
    exact hS
    (clear hS; intro w hS)
    refine xp 0 rfl rfl (fun w => ex_move (ev_at rfl)) ?_
    refine wp_mixed (rs := [1, 2]) (by decide +kernel) rfl ?_
    simp only [List.forall_mem_cons, List.not_mem_nil, false_implies, implies_true, and_true]
    refine ⟨?_, ?_⟩
    (focus (refine wo_of rfl rfl (wp_callL (cbT rfl) (EvL.c (ev_at rfl) EvL.n) ?_); refine (hsx _ _ hS).mono ?_; rintro e w ⟨J, u, vs, ls, rfl, hJ, hvs, hll, hl256, hui, hS⟩; refine ⟨_, rfl, ⟨gsF rfl, wg_p (by simp only [lset] <;> rfl) ?_⟩⟩; refine wg_loud 2 (by decide +kernel) rfl rfl (wp_val (ex_load (ev_at rfl) (ldW hS (kdT rfl) (szT rfl) hcl)) (⟨fun _ h => h, wg_p (by simp only [lset] <;> rfl) ?_⟩)); refine wg_loud 3 (by decide +kernel) rfl rfl (wp_callL (cbT rfl) (EvL.c (ev_at rfl) EvL.n) ?_); refine (hrn _ _ _ hJ hS).mono ?_; rintro e w ⟨J2, u2, ls2, rfl, hJ2, ⟨vs2, hs2, hb2⟩, hll2, hl256', -, hS⟩; refine ⟨_, rfl, ⟨gsF rfl, wg_p (by simp only [lset] <;> rfl) ?_⟩⟩; refine wg_loud 4 (by decide +kernel) rfl rfl (wp_append (ev_at rfl) (ev_at rfl) (slT rfl) (szT rfl) (byT rfl) (zeT rfl) hS (srcI hS hs2 (by rw [hb2.1, Nat.mul_one])) (by omega) (by omega) rfl fun v10 w hS hv10 => ⟨gsF rfl, wg_p (by simp only [lset] <;> rfl) ?_⟩); refine xp 5 rfl rfl (fun w => ex_assign (ev_at rfl)) ?_; refine wg_end (by decide +kernel) ?_; (try simp only [lset, splice, sub, List.take_succ_cons, List.take_zero, List.drop_succ_cons, List.drop_zero, List.nil_append, List.cons_append, List.length_cons, List.length_nil, Nat.reduceAdd, Nat.zero_add, rep_zero] at hS); exact joinEnd rfl ⟨J2, _, _, ls ++ ls2, rfl, hJ.trans hJ2, (hvs.mono hJ2).app hb2, (by simp; omega), (fun l hl => (List.mem_append.1 hl).elim (hl256 l) (hl256' l)), (by rw [List.length_append]; exact hS)⟩))
    (focus (refine wo_of rfl rfl (wp_val (ex_load (ev_at rfl) (ldW hS (kdT rfl) (szT rfl) hcl)) (⟨fun _ h => h, wg_p (by simp only [lset] <;> rfl) ?_⟩)); refine wg_loud 1 (by decide +kernel) rfl rfl (wp_callL (cbT rfl) (EvL.c (ev_at rfl) EvL.n) ?_); refine (hsx _ _ hS).mono ?_; rintro e w ⟨J, u, vs, ls, rfl, hJ, hvs, hll, hl256, hui, hS⟩; refine ⟨_, rfl, ⟨gsF rfl, wg_p (by simp only [lset] <;> rfl) ?_⟩⟩; refine wg_loud 3 (by decide +kernel) rfl rfl (wp_callL (cbT rfl) (EvL.c (ev_at rfl) EvL.n) ?_); refine (hrn _ _ _ hJ hS).mono ?_; rintro e w ⟨J2, u2, ls2, rfl, hJ2, ⟨vs2, hs2, hb2⟩, hll2, hl256', -, hS⟩; refine ⟨_, rfl, ⟨gsF rfl, wg_p (by simp only [lset] <;> rfl) ?_⟩⟩; refine wg_loud 4 (by decide +kernel) rfl rfl (wp_append (ev_at rfl) (ev_at rfl) (slT rfl) (szT rfl) (byT rfl) (zeT rfl) hS (srcI hS hs2 (by rw [hb2.1, Nat.mul_one])) (by omega) (by omega) rfl fun v10 w hS hv10 => ⟨gsF rfl, wg_p (by simp only [lset] <;> rfl) ?_⟩); refine xp 5 rfl rfl (fun w => ex_assign (ev_at rfl)) ?_; refine wg_end (by decide +kernel) ?_; (try simp only [lset, splice, sub, List.take_succ_cons, List.take_zero, List.drop_succ_cons, List.drop_zero, List.nil_append, List.cons_append, List.length_cons, List.length_nil, Nat.reduceAdd, Nat.zero_add, rep_zero] at hS); exact joinEnd rfl ⟨J2, _, _, ls ++ ls2, rfl, hJ.trans hJ2, (hvs.mono hJ2).app hb2, (by simp; omega), (fun l hl => (List.mem_append.1 hl).elim (hl256 l) (hl256' l)), (by rw [List.length_append]; exact hS)⟩))
  clear hS
  rintro f w ⟨J, u, vs, ls, h5, hJ, hvs, hll, hl256, hS⟩
  simp only [havoc, Nat.reduceAdd, h5]
  obtain ⟨J2, hJ2, hS, hu⟩ := hS.freezeRow
  have hse : SecI J2 u ls := ⟨vs, hu, hvs.mono hJ2⟩
  have hs1 := fun (w : World) (J3 : Gh) (L2 : List Ch) (hJ3 : J2.le J3) hS => salvage_ct (w := w) (I := J3) (L := L2) u ls (hse.mono hJ3) (fun l hl => by have := hl256 l hl; omega) (by omega) hS
  have hs2 := fun (w : World) (J3 : Gh) (L2 : List Ch) (hJ3 : J2.le J3) hS => rsalvage_ct (w := w) (I := J3) (L := L2) u ls (hse.mono hJ3) (fun l hl => by have := hl256 l hl; omega) (by omega) hS
  have hrl : (salvageAll ls).length ≤ ls.length + 1 := salvage_len _ _
  generalize salvageAll ls = rs at hs1 hs2 hrl
  repeat' (first
    | ((with_reducible apply wp_region_plain (id := 2)); refine wl_of rfl (wp_callL (cbT rfl) EvL.n ?_); refine (known_ct hS).mono ?_; rintro e w ⟨rfl, hS⟩; refine ⟨_, rfl, wl_put (by simp only [lset] <;> rfl) ?_⟩; refine xv (ex_move (ev_at rfl)) ?_; (first | refine wl_skip rfl rfl (by simp only [lset] <;> rfl) ?_ | (refine xv (ex_move (ev_at rfl)) ?_)); (first | refine wl_skip rfl rfl (by simp only [lset] <;> rfl) ?_ | (refine wl_of rfl (wp_callL (cbT rfl) (EvL.c (ev_at rfl) EvL.n) ?_); refine (hs1 _ _ _ (Gh.le.refl _) hS).mono ?_; rintro e w ⟨J3, u1, rfl, hJ3, hr1, hS⟩; refine ⟨_, rfl, wl_put (by simp only [lset] <;> rfl) ?_⟩)); (first | refine wl_skip rfl rfl (by simp only [lset] <;> rfl) ?_ | (refine xv (ex_move (ev_at rfl)) ?_)); (first | refine wl_skip rfl rfl (by simp only [lset] <;> rfl) ?_ | (refine wl_of rfl (wp_callL (cbT rfl) (EvL.c (ev_at rfl) EvL.n) ?_); refine (hs2 _ _ _ hJ3 hS).mono ?_; rintro e w ⟨J4, u2, rfl, hJ4, hr2, hS⟩; refine ⟨_, rfl, wl_put (by simp only [lset] <;> rfl) ?_⟩)); (first | refine wl_skip rfl rfl (by simp only [lset] <;> rfl) ?_ | (refine wl_of rfl (wp_callL (cbT rfl) (EvL.c (ev_at rfl) (EvL.c (ev_at rfl) EvL.n)) ?_); refine (list_ct _ _ _ (hr1.mono hJ4) hr2 (by omega) hS).mono ?_; rintro e w ⟨rfl, hS⟩; refine ⟨_, rfl, wl_put (by simp only [lset] <;> rfl) ?_⟩)); (first | refine xv (ex_pickT (ev_at rfl) (ev_at rfl)) ?_ | refine xv (ex_pickF (ev_at rfl) (ev_const _ _)) ?_ | refine xv (ex_pickAnd (ev_at rfl) (ev_at rfl) (ev_const _ _)) ?_); refine xv (ex_assign (ev_at rfl)) ?_; refine wl_nil ?_)
    | ((fail_if_success (with_reducible apply wp_region_plain)); (fail_if_success (with_reducible apply wp_region_GS)); go_step))
  refine end1 (by first | exact .inl rfl | exact .inr rfl) rfl (ResL.rt rfl ResL.rn) ?_
  exact ⟨rfl, hS.drop.anti (hJ.trans (hJ2.trans (hJ3.trans hJ4)))⟩
end
end Go.Proofs.Try
