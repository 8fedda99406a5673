/- The reference: contracts (4): Damage, same, Same. -/
import Derived.Test.YthbakafjhgcieaaR3
import Derived.Test.YthbakafjhgcieaaDC10
namespace Go.Proofs.Try
open Go.RowKit Go.SL Go.DK
set_option maxRecDepth 100000
set_option linter.unusedSimpArgs false
set_option linter.unusedVariables false
section
variable {w : World} {I : Gh} {L : List Ch}
def wrTo (R : RS) (k : Int) (i : Nat) (c : UInt8) (n : Nat) : List (Int × List UInt8) := (R.wr.take n).map (xorW k i c) ++ R.wr.drop n
theorem wrTo_get {R : RS} {k : Int} {i : Nat} {c : UInt8} {n : Nat} {p : Int × List UInt8} (h : R.wr[n]? = some p) : (wrTo R k i c n)[n]? = some p := by
  have hn := (List.getElem?_eq_some_iff.1 h).1
  rw [wrTo, List.getElem?_append_right (by simp; omega)]
  simp [Nat.min_eq_left (Nat.le_of_lt hn), h]
theorem wrTo_succ {R : RS} {k : Int} {i : Nat} {c : UInt8} {n : Nat} {p : Int × List UInt8} (h : R.wr[n]? = some p) : wrTo R k i c (n + 1) = (wrTo R k i c n).set n (xorW k i c p) := by
  have hn := (List.getElem?_eq_some_iff.1 h).1
  rw [wrTo, wrTo, take_snoc h, List.map_append, List.set_append_right _ _ (by simp; omega)]
  have e : R.wr.drop n = p :: R.wr.drop (n + 1) := by rw [List.drop_eq_getElem_cons hn]; congr 1; rw [List.getElem?_eq_getElem hn] at h; simpa using h
  rw [e]
  simp [Nat.min_eq_left (Nat.le_of_lt hn)]
theorem map_set2 {α β : Type} (f : α → β) (l : List α) (i : Nat) (a b : α) (h : l[i]? = some b) (e : f a = f b) : (l.set i a).map f = l.map f := by
  rw [List.map_set, e]; exact set_same (by simp [h])
def qW (q : Int × Value × List UInt8) : List Value := [.int .i64 q.1, q.2.1]
def qB (q : Int × Value × List UInt8) : Int × List UInt8 := (q.1, q.2.2)
theorem qW_get : ∀ {l : List (Int × Value × List UInt8)} {i : Nat} {q : Int × Value × List UInt8}, l[i]? = some q → (l.flatMap qW)[i * 2]? = some (.int .i64 q.1) ∧ (l.flatMap qW)[i * 2 + 1]? = some q.2.1
  | [], _, _, h => by simp at h
  | x :: r, 0, q, h => by simp at h; subst h; exact ⟨rfl, rfl⟩
  | x :: r, i + 1, q, h => by
    have ⟨h1, h2⟩ := qW_get (l := r) (i := i) (q := q) (by simpa using h)
    have e : (x :: r).flatMap qW = .int .i64 x.1 :: x.2.1 :: r.flatMap qW := rfl
    rw [e, show (i + 1) * 2 = i * 2 + 2 from by omega, show i * 2 + 2 + 1 = i * 2 + 1 + 2 from by omega]
    exact ⟨by simpa using h1, by simpa using h2⟩
theorem qW_set {l : List (Int × Value × List UInt8)} {i : Nat} {k : Int} {u : Value} {b b' : List UInt8} (h : l[i]? = some (k, u, b)) : (l.set i (k, u, b')).flatMap qW = l.flatMap qW := by
  simp only [List.flatMap]
  rw [map_set2 qW l i (k, u, b') _ h rfl]
set_option maxHeartbeats 8000000 in
theorem rdamage_ct (v : Value) (R : RS) (k at_ : Int) (c : UInt8) (hv : RefI I v R) (hR : R.Ok) (hS : Sat w I L) :
    Calls Try.prog 46 #[v, .int .i64 k, .int .i64 at_, byteV c] w fun e w' => ∃ v' J, e = .returned (.tuple #[v', .int .i64 (R.damage k at_ c).2]) ∧ I.le J ∧ RefI J v' (R.damage k at_ c).1 ∧ Sat w' J L := by
  obtain ⟨dv, wv, dcs, wcs, rfl, h1, h2, h3, h4⟩ := id hv
  have h1i := h1.is
  have h3i := h3.is
  have hn := hR.n
  have hfew := hR.few
  by_cases hk : 0 ≤ k ∧ k < R.dur.length
  case neg =>
    have e : R.damage k at_ c = (R, 8) := by simp [RS.damage, hk]
    rw [e]
    go_enter Try.func46, Try.ntmps46
    repeat' (first
      | ((with_reducible apply wp_region_plain (id := 0)); refine wl_of rfl (wp_boxN (ev_at rfl) hS fun b4 w hS => wl_put (by simp only [lset] <;> rfl) ?_); refine wl_of rfl (wp_alloc hS (zeT rfl) fun b8 w hS => wl_put (by simp only [lset] <;> rfl) ?_); refine xv (ex_assign (ev_const _ _)) ?_; refine wl_nil ?_)
      | ((with_reducible apply wp_region_plain (id := 1)); refine xv (ex_load (ev_at rfl) (ldN hS (kdT rfl) (szT rfl) rfl)) ?_; refine xv (ex_move (ev_at rfl)) ?_; refine wl_of rfl (wp_callL (cbT rfl) (EvL.c (ev_at rfl) (EvL.c (ev_at rfl) EvL.n)) ?_); refine (ris_ct (rdV dv wv R) R k hv.rr hS).mono ?_; rintro e w ⟨rfl, hS⟩; rw [decide_eq_false hk]; refine ⟨_, rfl, wl_put (by simp only [lset] <;> rfl) ?_⟩; refine xv (ex_not (ev_at rfl)) ?_; refine wl_nil ?_)
      | ((with_reducible apply wp_region_plain (id := 2)); refine xv (ex_load (ev_at rfl) (ldN hS (kdT rfl) (szT rfl) rfl)) ?_; refine wl_of rfl (wp_storeN (ev_at rfl) (ev_at rfl) hS (szT rfl) rfl (by first | rfl | assumption | (simp only [sub, splice, List.take_succ_cons, List.take_zero, List.drop_succ_cons, List.drop_zero, List.nil_append, List.cons_append, List.length_cons, List.length_nil, Nat.reduceAdd, List.all_cons, List.all_nil, Bool.and_eq_true, Bool.and_true]; ((repeat' apply And.intro) <;> first | rfl | assumption | exact IsSl.one (by assumption)))) fun w hS => wl_put0 ?_); refine xv (ex_assign (ev_const _ _)) ?_; refine wl_nil ?_; (try simp only [lset, splice, sub, List.take_succ_cons, List.take_zero, List.drop_succ_cons, List.drop_zero, List.nil_append, List.cons_append, List.length_cons, List.length_nil, Nat.reduceAdd, Nat.zero_add, rep_zero] at hS))
      | ((fail_if_success (with_reducible apply wp_region_plain)); (fail_if_success (with_reducible apply wp_region_GS)); go_step))
    refine endN (by first | exact .inl rfl | exact .inr rfl) rfl (ResL.rc rfl (ldN hS (kdT rfl) (szT rfl) rfl) (ResL.rt rfl ResL.rn)) rfl ?_
    exact ⟨_, I, rfl, Gh.le.refl I, hv, hS.drop.drop⟩
  by_cases ha : at_ < 0 ∨ 256 ≤ at_
  · have e : R.damage k at_ c = (R, 2) := by simp [RS.damage, hk, ha]
    rw [e]
    by_cases ha2 : at_ < 0
    all_goals
     go_enter Try.func46, Try.ntmps46
     repeat' (first
       | ((with_reducible apply wp_region_plain (id := 0)); refine wl_of rfl (wp_boxN (ev_at rfl) hS fun b4 w hS => wl_put (by simp only [lset] <;> rfl) ?_); refine wl_of rfl (wp_alloc hS (zeT rfl) fun b8 w hS => wl_put (by simp only [lset] <;> rfl) ?_); refine xv (ex_assign (ev_const _ _)) ?_; refine wl_nil ?_)
       | ((with_reducible apply wp_region_plain (id := 1)); refine xv (ex_load (ev_at rfl) (ldN hS (kdT rfl) (szT rfl) rfl)) ?_; refine xv (ex_move (ev_at rfl)) ?_; refine wl_of rfl (wp_callL (cbT rfl) (EvL.c (ev_at rfl) (EvL.c (ev_at rfl) EvL.n)) ?_); refine (ris_ct (rdV dv wv R) R k hv.rr hS).mono ?_; rintro e w ⟨rfl, hS⟩; rw [decide_eq_true hk]; refine ⟨_, rfl, wl_put (by simp only [lset] <;> rfl) ?_⟩; refine xv (ex_not (ev_at rfl)) ?_; refine wl_nil ?_)
       | ((with_reducible apply wp_region_plain (id := 3)); refine xv (ex_move (ev_at rfl)) ?_; refine xv (ex_cmp (ev_at rfl) (ev_const _ _) (by first | exact lssT (by omega) | exact lssF (by omega) | rfl)) ?_; refine xv (ex_move (ev_at rfl)) ?_; (first | refine wl_skip rfl rfl (by simp only [lset] <;> rfl) ?_ | (refine xv (ex_move (ev_at rfl)) ?_)); (first | refine wl_skip rfl rfl (by simp only [lset] <;> rfl) ?_ | (refine xv (ex_cmp (ev_at rfl) (ev_const _ _) (by first | exact geqT (by omega) | exact geqF (by omega) | rfl)) ?_)); (first | refine xv (ex_pickT (ev_at rfl) (ev_const _ _)) ?_ | refine xv (ex_pickF (ev_at rfl) (ev_at rfl)) ?_ | refine xv (ex_pickOr (ev_at rfl) (ev_const _ _) (ev_at rfl)) ?_); refine wl_nil ?_)
       | ((with_reducible apply wp_region_plain (id := 4)); refine xv (ex_load (ev_at rfl) (ldN hS (kdT rfl) (szT rfl) rfl)) ?_; refine wl_of rfl (wp_storeN (ev_at rfl) (ev_at rfl) hS (szT rfl) rfl (by first | rfl | assumption | (simp only [sub, splice, List.take_succ_cons, List.take_zero, List.drop_succ_cons, List.drop_zero, List.nil_append, List.cons_append, List.length_cons, List.length_nil, Nat.reduceAdd, List.all_cons, List.all_nil, Bool.and_eq_true, Bool.and_true]; ((repeat' apply And.intro) <;> first | rfl | assumption | exact IsSl.one (by assumption)))) fun w hS => wl_put0 ?_); refine xv (ex_assign (ev_const _ _)) ?_; refine wl_nil ?_; (try simp only [lset, splice, sub, List.take_succ_cons, List.take_zero, List.drop_succ_cons, List.drop_zero, List.nil_append, List.cons_append, List.length_cons, List.length_nil, Nat.reduceAdd, Nat.zero_add, rep_zero] at hS))
       | ((fail_if_success (with_reducible apply wp_region_plain)); (fail_if_success (with_reducible apply wp_region_GS)); go_step))
     refine endN (by first | exact .inl rfl | exact .inr rfl) rfl (ResL.rc rfl (ldN hS (kdT rfl) (szT rfl) rfl) (ResL.rt rfl ResL.rn)) rfl ?_
     exact ⟨_, I, rfl, Gh.le.refl I, hv, hS.drop.drop⟩
  have e : R.damage k at_ c = ({ R with dur := rset R.dur k (xorAt (R.dur[k.toNat]?.getD []) at_.toNat c), wr := R.wr.map (xorW k at_.toNat c) }, 0) := by simp [RS.damage, hk, ha]
  rw [e]
  obtain ⟨old, hold⟩ : ∃ old, R.dur[k.toNat]? = some old := ⟨_, List.getElem?_eq_getElem (by omega)⟩
  have holdl : old.length = 256 := hR.dur old (List.mem_of_getElem? hold)
  obtain ⟨x, hx⟩ : ∃ x, old[at_.toNat]? = some x := ⟨_, List.getElem?_eq_getElem (by omega)⟩
  go_enter Try.func46, Try.ntmps46
  repeat' (first
    | ((with_reducible apply wp_region_plain (id := 0)); refine wl_of rfl (wp_boxN (ev_at rfl) hS fun b4 w hS => wl_put (by simp only [lset] <;> rfl) ?_); refine wl_of rfl (wp_alloc hS (zeT rfl) fun b8 w hS => wl_put (by simp only [lset] <;> rfl) ?_); refine xv (ex_assign (ev_const _ _)) ?_; refine wl_nil ?_)
    | ((with_reducible apply wp_region_plain (id := 1)); refine xv (ex_load (ev_at rfl) (ldN hS (kdT rfl) (szT rfl) rfl)) ?_; refine xv (ex_move (ev_at rfl)) ?_; refine wl_of rfl (wp_callL (cbT rfl) (EvL.c (ev_at rfl) (EvL.c (ev_at rfl) EvL.n)) ?_); refine (ris_ct (rdV dv wv R) R k hv.rr hS).mono ?_; rintro e w ⟨rfl, hS⟩; rw [decide_eq_true hk]; refine ⟨_, rfl, wl_put (by simp only [lset] <;> rfl) ?_⟩; refine xv (ex_not (ev_at rfl)) ?_; refine wl_nil ?_)
    | ((with_reducible apply wp_region_plain (id := 3)); refine xv (ex_move (ev_at rfl)) ?_; refine xv (ex_cmp (ev_at rfl) (ev_const _ _) (by first | exact lssT (by omega) | exact lssF (by omega) | rfl)) ?_; refine xv (ex_move (ev_at rfl)) ?_; (first | refine wl_skip rfl rfl (by simp only [lset] <;> rfl) ?_ | (refine xv (ex_move (ev_at rfl)) ?_)); (first | refine wl_skip rfl rfl (by simp only [lset] <;> rfl) ?_ | (refine xv (ex_cmp (ev_at rfl) (ev_const _ _) (by first | exact geqT (by omega) | exact geqF (by omega) | rfl)) ?_)); (first | refine xv (ex_pickT (ev_at rfl) (ev_const _ _)) ?_ | refine xv (ex_pickF (ev_at rfl) (ev_at rfl)) ?_ | refine xv (ex_pickOr (ev_at rfl) (ev_const _ _) (ev_at rfl)) ?_); refine wl_nil ?_)
    | ((with_reducible apply wp_region_plain (id := 5)); refine xv (ex_load (ev_at rfl) (ldN hS (kdT rfl) (szT rfl) rfl)) ?_; refine wl_of rfl (wp_callL (cbT rfl) (EvL.c (ev_at rfl) EvL.n) ?_); refine (copy_ct (rdV dv wv R) R hv hR hS).mono ?_; rintro e w ⟨d2, w2, ps, qs, rfl, hps, hqs, hS⟩; have hd2 := (hS.row 0 rfl).1; have hw2 := (hS.row 2 rfl).1; refine ⟨_, rfl, wl_put (by simp only [lset] <;> rfl) ?_⟩; refine wl_of rfl (wp_storeN (ev_at rfl) (ev_at rfl) hS (szT rfl) rfl (by first | rfl | assumption | (simp only [sub, splice, List.take_succ_cons, List.take_zero, List.drop_succ_cons, List.drop_zero, List.nil_append, List.cons_append, List.length_cons, List.length_nil, Nat.reduceAdd, List.all_cons, List.all_nil, Bool.and_eq_true, Bool.and_true]; ((repeat' apply And.intro) <;> first | rfl | assumption | exact IsSl.one (by assumption)))) fun w hS => wl_put0 ?_); refine wl_nil ?_; (try simp only [lset, splice, sub, List.take_succ_cons, List.take_zero, List.drop_succ_cons, List.drop_zero, List.nil_append, List.cons_append, List.length_cons, List.length_nil, Nat.reduceAdd, Nat.zero_add, rep_zero] at hS))
    | ((fail_if_success (with_reducible apply wp_region_plain)); (fail_if_success (with_reducible apply wp_region_GS)); go_step))
  have hpl : ps.length = R.dur.length := by rw [← hps]; simp
  obtain ⟨pk, hpk⟩ : ∃ pk, ps[k.toNat]? = some pk := ⟨_, List.getElem?_eq_getElem (by omega)⟩
  have hpk2 : pk.2 = old := by
    have h9 : (ps.map Prod.snd)[k.toNat]? = some old := by rw [hps]; exact hold
    simpa [hpk] using h9
  obtain ⟨u, uo⟩ := pk
  simp only at hpk2
  subst hpk2
  have hu2 : (ps.map Prod.fst)[k.toNat]? = some u := by simp [hpk]
  have hS := InB.opnR hpk hS.swap
  have hui := hS.row0.1
  repeat' (first
    | ((with_reducible apply wp_region_GS (id := 6) 18 (fun j => [0, 1, 2, 3, 4, 5, 6, 7, 8, 9, 10, 11, 12, 13, 14, 15, 16].contains j) mixed); rfl; exact hS; (clear hS; intro w hS); (first | refine xp 0 rfl rfl (fun w => ex_fa (ev_at rfl) (flT rfl)) ?_ | refine xp 0 rfl rfl (fun w => ex_faE (ev_at rfl) (flT rfl) (by assumption) (by assumption)) ?_); refine xr 1 hS rfl rfl (fun w X hS => ex_load (ev_at rfl) (by first | exact ld1 hS (kdT rfl) rfl | exact ldE1 (u := u) ((hS.rowH (v := d2)).2.2.1) hd2 (m := k.toNat) (by omega) (kdT rfl) (by simpa using hu2) | exact ldE1 (u := byteV x) ((hS.rowH (v := u)).2.2.1) hui (m := at_.toNat) (by omega) (kdT rfl) (by simp [hx]))) ?_; refine xp 2 rfl rfl (fun w => ex_move (ev_at rfl)) ?_; (first | refine xp 3 rfl rfl (fun w => ex_iaN (ev_at rfl) (ev_at rfl) (slT rfl) (szT rfl) (by first | assumption | exact IsSl.nil) (by omega)) ?_ | refine xp 3 rfl rfl (fun w => ex_ia (ev_at rfl) (ev_at rfl) (slT rfl) (szT rfl) (by first | assumption | exact IsSl.nil) (by omega) (by omega)) ?_); refine xr 4 hS rfl rfl (fun w X hS => ex_load (ev_at rfl) (by first | exact ld1 hS (kdT rfl) rfl | exact ldE1 (u := u) ((hS.rowH (v := d2)).2.2.1) hd2 (m := k.toNat) (by omega) (kdT rfl) (by simpa using hu2) | exact ldE1 (u := byteV x) ((hS.rowH (v := u)).2.2.1) hui (m := at_.toNat) (by omega) (kdT rfl) (by simp [hx]))) ?_; refine xp 5 rfl rfl (fun w => ex_move (ev_at rfl)) ?_; (first | refine xp 6 rfl rfl (fun w => ex_fa (ev_at rfl) (flT rfl)) ?_ | refine xp 6 rfl rfl (fun w => ex_faE (ev_at rfl) (flT rfl) (by assumption) (by assumption)) ?_); refine xr 7 hS rfl rfl (fun w X hS => ex_load (ev_at rfl) (by first | exact ld1 hS (kdT rfl) rfl | exact ldE1 (u := u) ((hS.rowH (v := d2)).2.2.1) hd2 (m := k.toNat) (by omega) (kdT rfl) (by simpa using hu2) | exact ldE1 (u := byteV x) ((hS.rowH (v := u)).2.2.1) hui (m := at_.toNat) (by omega) (kdT rfl) (by simp [hx]))) ?_; refine xp 8 rfl rfl (fun w => ex_move (ev_at rfl)) ?_; (first | refine xp 9 rfl rfl (fun w => ex_iaN (ev_at rfl) (ev_at rfl) (slT rfl) (szT rfl) (by first | assumption | exact IsSl.nil) (by omega)) ?_ | refine xp 9 rfl rfl (fun w => ex_ia (ev_at rfl) (ev_at rfl) (slT rfl) (szT rfl) (by first | assumption | exact IsSl.nil) (by omega) (by omega)) ?_); refine xr 10 hS rfl rfl (fun w X hS => ex_load (ev_at rfl) (by first | exact ld1 hS (kdT rfl) rfl | exact ldE1 (u := u) ((hS.rowH (v := d2)).2.2.1) hd2 (m := k.toNat) (by omega) (kdT rfl) (by simpa using hu2) | exact ldE1 (u := byteV x) ((hS.rowH (v := u)).2.2.1) hui (m := at_.toNat) (by omega) (kdT rfl) (by simp [hx]))) ?_; refine xp 11 rfl rfl (fun w => ex_move (ev_at rfl)) ?_; (first | refine xp 12 rfl rfl (fun w => ex_iaN (ev_at rfl) (ev_at rfl) (slT rfl) (szT rfl) (by first | assumption | exact IsSl.nil) (by omega)) ?_ | refine xp 12 rfl rfl (fun w => ex_ia (ev_at rfl) (ev_at rfl) (slT rfl) (szT rfl) (by first | assumption | exact IsSl.nil) (by omega) (by omega)) ?_); refine xr 13 hS rfl rfl (fun w X hS => ex_load (ev_at rfl) (by first | exact ld1 hS (kdT rfl) rfl | exact ldE1 (u := u) ((hS.rowH (v := d2)).2.2.1) hd2 (m := k.toNat) (by omega) (kdT rfl) (by simpa using hu2) | exact ldE1 (u := byteV x) ((hS.rowH (v := u)).2.2.1) hui (m := at_.toNat) (by omega) (kdT rfl) (by simp [hx]))) ?_; refine xp 14 rfl rfl (fun w => ex_move (ev_at rfl)) ?_; refine xp 15 rfl rfl (fun w => ex_xor8 (ev_at rfl) (ev_at rfl)) ?_; (first | refine xp 16 rfl rfl (fun w => ex_iaN (ev_at rfl) (ev_at rfl) (slT rfl) (szT rfl) (by first | assumption | exact IsSl.nil) (by omega)) ?_ | refine xp 16 rfl rfl (fun w => ex_ia (ev_at rfl) (ev_at rfl) (slT rfl) (szT rfl) (by first | assumption | exact IsSl.nil) (by omega) (by omega)) ?_); refine wg_loud 17 (by decide +kernel) rfl rfl (wp_storeE1 (ev_at rfl) (ev_at rfl) hS (szT rfl) (by simp [holdl]; omega) rfl fun w hS => ⟨gsF rfl, wg_n ?_⟩); refine wg_end (by decide +kernel) ?_; (try simp only [lset, splice, sub, List.take_succ_cons, List.take_zero, List.drop_succ_cons, List.drop_zero, List.nil_append, List.cons_append, List.length_cons, List.length_nil, Nat.reduceAdd, Nat.zero_add, rep_zero] at hS))
    | ((with_reducible apply wp_region_plain (id := 7)); refine xv (ex_assign (ev_const _ _)) ?_; refine wl_nil ?_)
    | ((fail_if_success (with_reducible apply wp_region_plain)); (fail_if_success (with_reducible apply wp_region_GS)); go_step))
  rw [Nat.mul_one, xorAt_map _ _ _ _ hx] at hS
  have hxl : (xorAt uo at_.toNat c).length = 256 := by rw [xorAt_len, holdl]
  have hS := InB.shutR hpk (by rw [hxl, holdl]) rfl hS
  obtain ⟨J, hJ, hS, hb⟩ := InB.freeze hS
  rw [List.map_set, hps, List.map_set, set_same (c := u) (by simp [hpk])] at hb
  refine wp_loopR [false, false, false, false, false, false, false, false, false, false, true, false, false, false, false, false, false, false, false, false, false, false, false, false, false, false, false, false, false, false, false, false, false, false, false, false, false, false, false, false, false, false, true, true, true, true, true, true, true, true, true, true, true, true, true, true, true, true, true, true, true, true, true, true, true, true, true, true, true, true, true, true, true, true, true, true] (fun f w => ∃ (i : Nat) (qs2 : List (Int × Value × List UInt8)), f 10 = .int .i64 i ∧ i ≤ R.wr.length ∧ qs2.flatMap qW = qs.flatMap qW ∧ qs2.map qB = wrTo R k at_.toNat c i ∧
      Sat w J (Row d2 30 1 R.dur.length (ps.map Prod.fst) :: Row w2 85 2 R.wr.length (qs.flatMap qW) :: InB 5 (qs2.map Prod.snd) ::
      Cells b8 45 [.slice none 0 0, .slice none 0 0, .int .i64 0, .bool false, .int .i64 0] :: Cells b4 45 [d2, w2, .int .i64 R.lim, .bool R.down, .int .i64 R.ops] :: L)) (fun f _ => R.wr.length - ivN (f 10)) rfl ⟨0, qs, rfl, by omega, rfl, by simp only [wrTo, List.take_zero, List.map_nil, List.drop_zero, List.nil_append]; exact hqs, hS⟩ ?_
  clear hS
  rintro f w ⟨i, qs2, h10, hi, hqw, hqb, hS⟩
  simp only [havoc, Nat.reduceAdd, h10]
  by_cases hlt : i < R.wr.length
  · obtain ⟨p, hp1⟩ : ∃ p, R.wr[i]? = some p := ⟨_, List.getElem?_eq_getElem hlt⟩
    have hp2 := hR.wr p (List.mem_of_getElem? hp1)
    have hql : qs2.length = R.wr.length := by have := congrArg List.length hqb; simp [wrTo] at this; omega
    obtain ⟨q, hq1⟩ : ∃ q, qs2[i]? = some q := ⟨_, List.getElem?_eq_getElem (by omega)⟩
    obtain ⟨qk, qv, qb⟩ := q
    have hqe : (qk, qb) = p := by
      have h9 : (qs2.map qB)[i]? = some p := by rw [hqb]; exact wrTo_get hp1
      simpa [hq1, qB] using h9
    subst hqe
    simp only at hp2
    have ⟨hg0, hg1⟩ := qW_get hq1
    rw [hqw] at hg0 hg1
    simp only at hg0 hg1
    by_cases hk2 : qk = k
    · have hS := hS.up2
      have hS := InB.opnR (u := qv) (b := qb) (i := i) (by simp [hq1]) hS
      have hqi := hS.row0.1
      obtain ⟨y, hy⟩ : ∃ y, qb[at_.toNat]? = some y := ⟨_, List.getElem?_eq_getElem (by omega)⟩
      repeat' (first
        | ((with_reducible apply wp_region_plain (id := 8)); refine xv (ex_move (ev_at rfl)) ?_; (first | refine xv (ex_fa (ev_at rfl) (flT rfl)) ?_ | refine xv (ex_faE (ev_at rfl) (flT rfl) (by assumption) (by assumption)) ?_); refine xv (ex_load (ev_at rfl) (by first | exact ld1 hS (kdT rfl) rfl | exact ldE1 (u := .int .i64 qk) ((hS.rowH (v := w2)).2.2.1) hw2 (m := i) hlt (kdT rfl) (by simpa using hg0) | exact ldE1 (u := qv) ((hS.rowH (v := w2)).2.2.1) hw2 (m := i) hlt (kdT rfl) (by simpa using hg1) | exact ldE1 (u := byteV y) ((hS.rowH (v := qv)).2.2.1) hqi (m := at_.toNat) (by omega) (kdT rfl) (by simp [hy]))) ?_; refine xv (ex_len (ev_at rfl) (slT rfl) (by first | assumption | exact IsSl.nil)) ?_; refine xv (ex_cmp (ev_at rfl) (ev_at rfl) (by first | exact lssT (by omega) | exact lssF (by omega) | rfl)) ?_; refine wl_nil ?_)
        | ((with_reducible apply wp_region_plain (id := 10)); (first | refine xv (ex_fa (ev_at rfl) (flT rfl)) ?_ | refine xv (ex_faE (ev_at rfl) (flT rfl) (by assumption) (by assumption)) ?_); refine xv (ex_load (ev_at rfl) (by first | exact ld1 hS (kdT rfl) rfl | exact ldE1 (u := .int .i64 qk) ((hS.rowH (v := w2)).2.2.1) hw2 (m := i) hlt (kdT rfl) (by simpa using hg0) | exact ldE1 (u := qv) ((hS.rowH (v := w2)).2.2.1) hw2 (m := i) hlt (kdT rfl) (by simpa using hg1) | exact ldE1 (u := byteV y) ((hS.rowH (v := qv)).2.2.1) hqi (m := at_.toNat) (by omega) (kdT rfl) (by simp [hy]))) ?_; refine xv (ex_move (ev_at rfl)) ?_; (first | refine xv (ex_iaN (ev_at rfl) (ev_at rfl) (slT rfl) (szT rfl) (by first | assumption | exact IsSl.nil) (by omega)) ?_ | refine xv (ex_ia (ev_at rfl) (ev_at rfl) (slT rfl) (szT rfl) (by first | assumption | exact IsSl.nil) (by omega) (by omega)) ?_); (first | refine xv (ex_fa (ev_at rfl) (flT rfl)) ?_ | refine xv (ex_faE (ev_at rfl) (flT rfl) (by assumption) (by assumption)) ?_); refine xv (ex_load (ev_at rfl) (by first | exact ld1 hS (kdT rfl) rfl | exact ldE1 (u := .int .i64 qk) ((hS.rowH (v := w2)).2.2.1) hw2 (m := i) hlt (kdT rfl) (by simpa using hg0) | exact ldE1 (u := qv) ((hS.rowH (v := w2)).2.2.1) hw2 (m := i) hlt (kdT rfl) (by simpa using hg1) | exact ldE1 (u := byteV y) ((hS.rowH (v := qv)).2.2.1) hqi (m := at_.toNat) (by omega) (kdT rfl) (by simp [hy]))) ?_; refine xv (ex_move (ev_at rfl)) ?_; refine xv (ex_cmp (ev_at rfl) (ev_at rfl) (by first | exact eqlT (by omega) | exact eqlF (by omega) | rfl)) ?_; refine wl_nil ?_)
        | ((with_reducible apply wp_region_GS (id := 11) 20 (fun j => [0, 1, 2, 3, 4, 5, 6, 7, 8, 9, 10, 11, 12, 13, 14, 15, 16, 17, 18].contains j) mixed); rfl; exact hS; (clear hS; intro w hS); (first | refine xp 0 rfl rfl (fun w => ex_fa (ev_at rfl) (flT rfl)) ?_ | refine xp 0 rfl rfl (fun w => ex_faE (ev_at rfl) (flT rfl) (by assumption) (by assumption)) ?_); refine xr 1 hS rfl rfl (fun w X hS => ex_load (ev_at rfl) (by first | exact ld1 hS (kdT rfl) rfl | exact ldE1 (u := .int .i64 qk) ((hS.rowH (v := w2)).2.2.1) hw2 (m := i) hlt (kdT rfl) (by simpa using hg0) | exact ldE1 (u := qv) ((hS.rowH (v := w2)).2.2.1) hw2 (m := i) hlt (kdT rfl) (by simpa using hg1) | exact ldE1 (u := byteV y) ((hS.rowH (v := qv)).2.2.1) hqi (m := at_.toNat) (by omega) (kdT rfl) (by simp [hy]))) ?_; refine xp 2 rfl rfl (fun w => ex_move (ev_at rfl)) ?_; (first | refine xp 3 rfl rfl (fun w => ex_iaN (ev_at rfl) (ev_at rfl) (slT rfl) (szT rfl) (by first | assumption | exact IsSl.nil) (by omega)) ?_ | refine xp 3 rfl rfl (fun w => ex_ia (ev_at rfl) (ev_at rfl) (slT rfl) (szT rfl) (by first | assumption | exact IsSl.nil) (by omega) (by omega)) ?_); (first | refine xp 4 rfl rfl (fun w => ex_fa (ev_at rfl) (flT rfl)) ?_ | refine xp 4 rfl rfl (fun w => ex_faE (ev_at rfl) (flT rfl) (by assumption) (by assumption)) ?_); refine xr 5 hS rfl rfl (fun w X hS => ex_load (ev_at rfl) (by first | exact ld1 hS (kdT rfl) rfl | exact ldE1 (u := .int .i64 qk) ((hS.rowH (v := w2)).2.2.1) hw2 (m := i) hlt (kdT rfl) (by simpa using hg0) | exact ldE1 (u := qv) ((hS.rowH (v := w2)).2.2.1) hw2 (m := i) hlt (kdT rfl) (by simpa using hg1) | exact ldE1 (u := byteV y) ((hS.rowH (v := qv)).2.2.1) hqi (m := at_.toNat) (by omega) (kdT rfl) (by simp [hy]))) ?_; refine xp 6 rfl rfl (fun w => ex_move (ev_at rfl)) ?_; (first | refine xp 7 rfl rfl (fun w => ex_fa (ev_at rfl) (flT rfl)) ?_ | refine xp 7 rfl rfl (fun w => ex_faE (ev_at rfl) (flT rfl) (by assumption) (by assumption)) ?_); refine xr 8 hS rfl rfl (fun w X hS => ex_load (ev_at rfl) (by first | exact ld1 hS (kdT rfl) rfl | exact ldE1 (u := .int .i64 qk) ((hS.rowH (v := w2)).2.2.1) hw2 (m := i) hlt (kdT rfl) (by simpa using hg0) | exact ldE1 (u := qv) ((hS.rowH (v := w2)).2.2.1) hw2 (m := i) hlt (kdT rfl) (by simpa using hg1) | exact ldE1 (u := byteV y) ((hS.rowH (v := qv)).2.2.1) hqi (m := at_.toNat) (by omega) (kdT rfl) (by simp [hy]))) ?_; refine xp 9 rfl rfl (fun w => ex_move (ev_at rfl)) ?_; (first | refine xp 10 rfl rfl (fun w => ex_iaN (ev_at rfl) (ev_at rfl) (slT rfl) (szT rfl) (by first | assumption | exact IsSl.nil) (by omega)) ?_ | refine xp 10 rfl rfl (fun w => ex_ia (ev_at rfl) (ev_at rfl) (slT rfl) (szT rfl) (by first | assumption | exact IsSl.nil) (by omega) (by omega)) ?_); (first | refine xp 11 rfl rfl (fun w => ex_fa (ev_at rfl) (flT rfl)) ?_ | refine xp 11 rfl rfl (fun w => ex_faE (ev_at rfl) (flT rfl) (by assumption) (by assumption)) ?_); refine xr 12 hS rfl rfl (fun w X hS => ex_load (ev_at rfl) (by first | exact ld1 hS (kdT rfl) rfl | exact ldE1 (u := .int .i64 qk) ((hS.rowH (v := w2)).2.2.1) hw2 (m := i) hlt (kdT rfl) (by simpa using hg0) | exact ldE1 (u := qv) ((hS.rowH (v := w2)).2.2.1) hw2 (m := i) hlt (kdT rfl) (by simpa using hg1) | exact ldE1 (u := byteV y) ((hS.rowH (v := qv)).2.2.1) hqi (m := at_.toNat) (by omega) (kdT rfl) (by simp [hy]))) ?_; refine xp 13 rfl rfl (fun w => ex_move (ev_at rfl)) ?_; (first | refine xp 14 rfl rfl (fun w => ex_iaN (ev_at rfl) (ev_at rfl) (slT rfl) (szT rfl) (by first | assumption | exact IsSl.nil) (by omega)) ?_ | refine xp 14 rfl rfl (fun w => ex_ia (ev_at rfl) (ev_at rfl) (slT rfl) (szT rfl) (by first | assumption | exact IsSl.nil) (by omega) (by omega)) ?_); refine xr 15 hS rfl rfl (fun w X hS => ex_load (ev_at rfl) (by first | exact ld1 hS (kdT rfl) rfl | exact ldE1 (u := .int .i64 qk) ((hS.rowH (v := w2)).2.2.1) hw2 (m := i) hlt (kdT rfl) (by simpa using hg0) | exact ldE1 (u := qv) ((hS.rowH (v := w2)).2.2.1) hw2 (m := i) hlt (kdT rfl) (by simpa using hg1) | exact ldE1 (u := byteV y) ((hS.rowH (v := qv)).2.2.1) hqi (m := at_.toNat) (by omega) (kdT rfl) (by simp [hy]))) ?_; refine xp 16 rfl rfl (fun w => ex_move (ev_at rfl)) ?_; refine xp 17 rfl rfl (fun w => ex_xor8 (ev_at rfl) (ev_at rfl)) ?_; (first | refine xp 18 rfl rfl (fun w => ex_iaN (ev_at rfl) (ev_at rfl) (slT rfl) (szT rfl) (by first | assumption | exact IsSl.nil) (by omega)) ?_ | refine xp 18 rfl rfl (fun w => ex_ia (ev_at rfl) (ev_at rfl) (slT rfl) (szT rfl) (by first | assumption | exact IsSl.nil) (by omega) (by omega)) ?_); refine wg_loud 19 (by decide +kernel) rfl rfl (wp_storeE1 (ev_at rfl) (ev_at rfl) hS (szT rfl) (by simp [hp2]; omega) rfl fun w hS => ⟨gsF rfl, wg_n ?_⟩); refine wg_end (by decide +kernel) ?_; (try simp only [lset, splice, sub, List.take_succ_cons, List.take_zero, List.drop_succ_cons, List.drop_zero, List.nil_append, List.cons_append, List.length_cons, List.length_nil, Nat.reduceAdd, Nat.zero_add, rep_zero] at hS))
        | ((with_reducible apply wp_region_plain (id := 9)); refine xv (ex_move (ev_at rfl)) ?_; refine xv (ex_arith (ev_at rfl) (ev_const _ _) rfl (by first | exact IntWalk.i64_in _ (by omega) | rfl)) ?_; refine xv (ex_assign (ev_at rfl)) ?_; refine wl_nil ?_)
        | ((fail_if_success (with_reducible apply wp_region_plain)); (fail_if_success (with_reducible apply wp_region_GS)); go_step))
      rw [Nat.mul_one, xorAt_map _ _ _ _ hy] at hS
      have hxl : (xorAt qb at_.toNat c).length = 256 := by rw [xorAt_len, hp2]
      have hS := InB.shutR (u := qv) (b := qb) (by simp [hq1]) (by rw [hxl, hp2]) rfl hS
      have e9 : (qs2.map Prod.snd).set i (qv, xorAt qb at_.toNat c) = (qs2.set i (qk, qv, xorAt qb at_.toNat c)).map Prod.snd := by rw [List.map_set]
      rw [e9] at hS
      refine loopEnd rfl ⟨i + 1, qs2.set i (qk, qv, xorAt qb at_.toNat c), rfl, by omega, ?_, ?_, hS.rot3⟩ (by simp only [h10, nth, ivN]; omega)
      · rw [qW_set hq1, hqw]
      · rw [List.map_set, hqb, wrTo_succ hp1]; simp [xorW, hk2, qB]
    · repeat' (first
        | ((with_reducible apply wp_region_plain (id := 8)); refine xv (ex_move (ev_at rfl)) ?_; (first | refine xv (ex_fa (ev_at rfl) (flT rfl)) ?_ | refine xv (ex_faE (ev_at rfl) (flT rfl) (by assumption) (by assumption)) ?_); refine xv (ex_load (ev_at rfl) (by first | exact ld1 hS (kdT rfl) rfl | exact ldE1 (u := .int .i64 qk) ((hS.rowH (v := w2)).2.2.1) hw2 (m := i) hlt (kdT rfl) (by simpa using hg0))) ?_; refine xv (ex_len (ev_at rfl) (slT rfl) (by first | assumption | exact IsSl.nil)) ?_; refine xv (ex_cmp (ev_at rfl) (ev_at rfl) (by first | exact lssT (by omega) | exact lssF (by omega) | rfl)) ?_; refine wl_nil ?_)
        | ((with_reducible apply wp_region_plain (id := 10)); (first | refine xv (ex_fa (ev_at rfl) (flT rfl)) ?_ | refine xv (ex_faE (ev_at rfl) (flT rfl) (by assumption) (by assumption)) ?_); refine xv (ex_load (ev_at rfl) (by first | exact ld1 hS (kdT rfl) rfl | exact ldE1 (u := .int .i64 qk) ((hS.rowH (v := w2)).2.2.1) hw2 (m := i) hlt (kdT rfl) (by simpa using hg0))) ?_; refine xv (ex_move (ev_at rfl)) ?_; (first | refine xv (ex_iaN (ev_at rfl) (ev_at rfl) (slT rfl) (szT rfl) (by first | assumption | exact IsSl.nil) (by omega)) ?_ | refine xv (ex_ia (ev_at rfl) (ev_at rfl) (slT rfl) (szT rfl) (by first | assumption | exact IsSl.nil) (by omega) (by omega)) ?_); (first | refine xv (ex_fa (ev_at rfl) (flT rfl)) ?_ | refine xv (ex_faE (ev_at rfl) (flT rfl) (by assumption) (by assumption)) ?_); refine xv (ex_load (ev_at rfl) (by first | exact ld1 hS (kdT rfl) rfl | exact ldE1 (u := .int .i64 qk) ((hS.rowH (v := w2)).2.2.1) hw2 (m := i) hlt (kdT rfl) (by simpa using hg0))) ?_; refine xv (ex_move (ev_at rfl)) ?_; refine xv (ex_cmp (ev_at rfl) (ev_at rfl) (by first | exact eqlT (by omega) | exact eqlF (by omega) | rfl)) ?_; refine wl_nil ?_)
        | ((with_reducible apply wp_region_plain (id := 9)); refine xv (ex_move (ev_at rfl)) ?_; refine xv (ex_arith (ev_at rfl) (ev_const _ _) rfl (by first | exact IntWalk.i64_in _ (by omega) | rfl)) ?_; refine xv (ex_assign (ev_at rfl)) ?_; refine wl_nil ?_)
        | ((fail_if_success (with_reducible apply wp_region_plain)); (fail_if_success (with_reducible apply wp_region_GS)); go_step))
      refine loopEnd rfl ⟨i + 1, qs2, rfl, by omega, hqw, ?_, hS⟩ (by simp only [h10, nth, ivN]; omega)
      rw [wrTo_succ hp1, show xorW k at_.toNat c (qk, qb) = (qk, qb) from by simp [xorW, hk2], hqb, set_eq (wrTo_get hp1)]
  · have hi : i = R.wr.length := by omega
    subst hi
    repeat' (first
      | ((with_reducible apply wp_region_plain (id := 8)); refine xv (ex_move (ev_at rfl)) ?_; (first | refine xv (ex_fa (ev_at rfl) (flT rfl)) ?_ | refine xv (ex_faE (ev_at rfl) (flT rfl) (by assumption) (by assumption)) ?_); refine xv (ex_load (ev_at rfl) (ld1 hS (kdT rfl) rfl)) ?_; refine xv (ex_len (ev_at rfl) (slT rfl) (by first | assumption | exact IsSl.nil)) ?_; refine xv (ex_cmp (ev_at rfl) (ev_at rfl) (by first | exact lssT (by omega) | exact lssF (by omega) | rfl)) ?_; refine wl_nil ?_)
      | ((with_reducible apply wp_region_plain (id := 12)); refine xv (ex_load (ev_at rfl) (ldN hS (kdT rfl) (szT rfl) rfl)) ?_; refine wl_of rfl (wp_storeN (ev_at rfl) (ev_at rfl) hS (szT rfl) rfl (by first | rfl | assumption | (simp only [sub, splice, List.take_succ_cons, List.take_zero, List.drop_succ_cons, List.drop_zero, List.nil_append, List.cons_append, List.length_cons, List.length_nil, Nat.reduceAdd, List.all_cons, List.all_nil, Bool.and_eq_true, Bool.and_true]; ((repeat' apply And.intro) <;> first | rfl | assumption | exact IsSl.one (by assumption)))) fun w hS => wl_put0 ?_); refine xv (ex_assign (ev_const _ _)) ?_; refine wl_nil ?_; (try simp only [lset, splice, sub, List.take_succ_cons, List.take_zero, List.drop_succ_cons, List.drop_zero, List.nil_append, List.cons_append, List.length_cons, List.length_nil, Nat.reduceAdd, Nat.zero_add, rep_zero] at hS))
      | ((fail_if_success (with_reducible apply wp_region_plain)); (fail_if_success (with_reducible apply wp_region_GS)); go_step))
    refine endN (by first | exact .inl rfl | exact .inr rfl) rfl (ResL.rc rfl (ldN hS (kdT rfl) (szT rfl) rfl) (ResL.rt rfl ResL.rn)) rfl ?_
    obtain ⟨J1, hJ1, hS, s1⟩ := hS.freezeRow
    obtain ⟨J2, hJ2, hS, s2⟩ := hS.freezeRow
    obtain ⟨J3, hJ3, hS, hb2⟩ := InB.freeze hS
    refine ⟨_, J3, rfl, ((hJ.trans hJ1).trans hJ2).trans hJ3, ?_, hS.drop.drop⟩
    have hpd : PendI J3 (qs2.map qB) (qs2.flatMap qW) := pend_of_bss hb2
    rw [hqb, hqw] at hpd
    have e10 : wrTo R k at_.toNat c R.wr.length = R.wr.map (xorW k at_.toNat c) := by simp [wrTo]
    rw [e10] at hpd
    refine ⟨d2, w2, ps.map Prod.fst, _, rfl, ?_, ?_, ?_, hpd⟩
    · simp only [rset, List.length_set]; exact (s1.mono hJ2).mono hJ3
    · rw [hold]; exact ((hb.mono hJ1).mono hJ2).mono hJ3
    · simp only [List.length_map]; exact s2.mono hJ3
end
end Go.Proofs.Try
