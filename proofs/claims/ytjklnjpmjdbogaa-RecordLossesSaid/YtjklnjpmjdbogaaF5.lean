/- RecordTampering. -/
import Derived.Test.YtjklnjpmjdbogaaF4
namespace Go.Proofs.Try
open Go.RowKit Go.SL Go.SH Go.RC
set_option maxRecDepth 100000
set_option linter.unusedSimpArgs false
set_option linter.unusedVariables false
section
variable {w : World} {I : Gh} {L : List Ch}
theorem wp_storeETo {a : Act} {K : Act → World → Prop} {Q : Exit → Act → World → Prop} {dst : Option Tmp} {x y : Operand} {t ty : TypeId} {pos : String} {af : Array Edge} {gd : Option (Nat × Bool)} {v u : Value} {E : TypeId} {sz n k : Nat} {xs ys : List Value} {rep : Ch → List Ch}
    (hp : a.eval x = .pointer (some (ea v k))) (hy : a.eval y = u) (hS : Sat w I L) [hi : HasRow L v E sz n xs rep] (hs : sizeB Try.prog t = some 1) (hk : k < xs.length) (h1 : u.oneCell' = true) (hd : xs.set k u = ys)
    (h : ∀ w', Sat w' I (rep (Row v E sz n ys)) → K (a.put dst undef) w') : Oper.wp Try.prog ⟨dst, .store t x y, ty, pos, af, gd⟩ a w K Q := by
  subst hd
  exact wp_storeE1 hp hy hS hs hk h1 h
theorem Rds.from16 {v : Value} {bs : List UInt8} (hr : Rds I L v (bs.map byteV)) (hv : IsSl v 256) (hl : bs.length = 256) : Rds I L (slv v 16 256 1) ((bs.drop 16).map byteV) := by
  have := Rds.part hr hv (l := 16) (h := 256) (by omega) (by omega)
  rwa [List.take_of_length_le (by simp [hl])] at this
theorem cut224 {bs : List UInt8} {v : Value} {n : Nat} (hl : bs.length = n) (hv : IsSl v n) (hr : Rds I L v (bs.map byteV)) : ∃ m : Nat, (if (224 : Int) < (n : Int) then 224 else (n : Int)) = (m : Int) ∧ m ≤ n ∧ (bs.take 224).length = m ∧ IsSl (slv v 0 m 1) m ∧ Rds I L (slv v 0 m 1) ((bs.take 224).map byteV) := by
  obtain ⟨m, hm1, hm2, hm3⟩ : ∃ m : Nat, (if (224 : Int) < (n : Int) then 224 else (n : Int)) = (m : Int) ∧ m ≤ n ∧ (bs.take 224).length = m := by
    by_cases h : (224 : Int) < (n : Int)
    · exact ⟨224, by rw [if_pos h]; rfl, by omega, by simp; omega⟩
    · exact ⟨n, by rw [if_neg h], by omega, by simp; omega⟩
  have hv2 := hv.slv (l := 0) (h := m) (sz := 1) (by omega) hm2
  rw [Nat.sub_zero] at hv2
  refine ⟨m, hm1, hm2, hm3, hv2, ?_⟩
  have := Rds.part hr hv (l := 0) (h := m) (by omega) hm2
  rw [List.drop_zero, Nat.sub_zero] at this
  have e : bs.take m = bs.take 224 := by
    rw [List.take_eq_take_iff, hl]
    simp only [List.length_take] at hm3
    omega
  rwa [e] at this
set_option maxHeartbeats 8000000 in
theorem recordTampering_ct (p0 : PartS) (v : Value) (at_ by_ : UInt8) (hv : IsSl v p0.bytes.length) (hr : Rds I [] v (p0.bytes.map byteV)) (hS : Sat w I []) :
    Calls Try.prog 5 #[partV p0 v, byteV at_, byteV by_] w fun e w' => e = .returned (.bool true) ∧ Sat w' I [] := by
  obtain ⟨m, hm1, hm2, hm3, hv2, hr2⟩ := cut224 rfl hv hr
  obtain ⟨P, hP⟩ : ∃ P, P = cutP p0 224 := ⟨_, rfl⟩
  have hPb : P.bytes = p0.bytes.take 224 := by rw [hP]; rfl
  have k1 : p0.kind = P.kind := by rw [hP]; rfl
  have k2 : p0.gen = P.gen := by rw [hP]; rfl
  have k3 : p0.num = P.num := by rw [hP]; rfl
  have k4 : p0.idx = P.idx := by rw [hP]; rfl
  have k5 : p0.cnt = P.cnt := by rw [hP]; rfl
  rw [← hPb] at hm3 hr2
  generalize p0.bytes.length = n at hv hm1 hm2
  unfold partV
  rw [k1, k2, k3, k4, k5]
  clear hP hPb k1 k2 k3 k4 k5
  have hrk := fun (w : World) (L2 : List Ch) (u : Value) (hu : IsSl u m) hS => rcheck_ct (w := w) (I := I) (L := L2) P u (by rw [hm3]; exact hu) hS
  unfold partV at hrk
  have hv0 : IsSl v n := hv
  by_cases hc : RC.check P = 0
  case neg =>
    generalize RC.check P = c at hc hrk
    go_enter Try.func5, Try.ntmps5
    repeat' (first
      | ((with_reducible apply wp_region_plain (id := 0)); refine wl_of rfl (wp_boxN (ev_at rfl) hS fun b3 w hS => wl_put (by simp only [lset] <;> rfl) ?_); refine xv (ex_assign (ev_const _ _)) ?_; refine wl_nil ?_)
      | ((with_reducible apply wp_region_plain (id := 1)); (first | refine xv (ex_fa (ev_at rfl) (flT rfl)) ?_ | refine xv (ex_faE (ev_at rfl) (flT rfl) (by assumption) (by assumption)) ?_); refine xv (ex_load (ev_at rfl) (ld1 hS (kdT rfl) rfl)) ?_; (first | refine xv (ex_fa (ev_at rfl) (flT rfl)) ?_ | refine xv (ex_faE (ev_at rfl) (flT rfl) (by assumption) (by assumption)) ?_); refine xv (ex_load (ev_at rfl) (ld1 hS (kdT rfl) rfl)) ?_; refine xv (ex_len (ev_at rfl) (slT rfl) (by first | assumption | exact IsSl.nil)) ?_; refine xv (ex_min2r (r := (m : Int)) (ev_at rfl) (ev_const _ _) hm1) ?_; refine xv (ex_sliceH (ev_at rfl) (ev_at rfl) (slT rfl) (szT rfl) (by first | assumption | exact IsSl.nil) (by omega) (by omega)) ?_; (first | refine xv (ex_fa (ev_at rfl) (flT rfl)) ?_ | refine xv (ex_faE (ev_at rfl) (flT rfl) (by assumption) (by assumption)) ?_); refine wl_of rfl (wp_store1 (ev_at rfl) (ev_at rfl) hS (szT rfl) rfl (IsSl.one hv2) fun w hS => wl_put0 ?_); refine wl_nil ?_; (try simp only [lset, splice, sub, List.take_succ_cons, List.take_zero, List.drop_succ_cons, List.drop_zero, List.nil_append, List.cons_append, List.length_cons, List.length_nil, Nat.reduceAdd, Nat.zero_add, rep_zero] at hS))
      | ((with_reducible apply wp_region_plain (id := 2)); refine wl_of rfl (wp_callL (cbT rfl) EvL.n ?_); refine (known_ct hS).mono ?_; rintro e w ⟨rfl, hS⟩; refine ⟨_, rfl, wl_put (by simp only [lset] <;> rfl) ?_⟩; refine xv (ex_not (ev_at rfl)) ?_; refine xv (ex_move (ev_at rfl)) ?_; (first | refine wl_skip rfl rfl (by simp only [lset] <;> rfl) ?_ | (refine xv (ex_load (ev_at rfl) (ldN hS (kdT rfl) (szT rfl) rfl)) ?_)); (first | refine wl_skip rfl rfl (by simp only [lset] <;> rfl) ?_ | (refine wl_of rfl (wp_callL (cbT rfl) (EvL.c (ev_at rfl) EvL.n) ?_); refine (hrk _ _ _ hv2 hS).mono ?_; rintro e w ⟨rfl, hS⟩; refine ⟨_, rfl, wl_put (by simp only [lset] <;> rfl) ?_⟩)); (first | refine wl_skip rfl rfl (by simp only [lset] <;> rfl) ?_ | (refine xv (ex_cmp (ev_at rfl) (ev_const _ _) (by first | exact neqT (by omega) | exact neqF (by omega) | rfl)) ?_)); (first | refine xv (ex_pickT (ev_at rfl) (ev_const _ _)) ?_ | refine xv (ex_pickF (ev_at rfl) (ev_at rfl)) ?_ | refine xv (ex_pickOr (ev_at rfl) (ev_const _ _) (ev_at rfl)) ?_); refine xv (ex_move (ev_at rfl)) ?_; (first | refine wl_skip rfl rfl (by simp only [lset] <;> rfl) ?_ | (refine xv (ex_move (ev_at rfl)) ?_)); (first | refine wl_skip rfl rfl (by simp only [lset] <;> rfl) ?_ | (refine xv (ex_cmp (ev_at rfl) (ev_const _ _) (by first | exact eqlT (by omega) | exact eqlF (by omega) | rfl)) ?_)); (first | refine xv (ex_pickT (ev_at rfl) (ev_const _ _)) ?_ | refine xv (ex_pickF (ev_at rfl) (ev_at rfl)) ?_ | refine xv (ex_pickOr (ev_at rfl) (ev_const _ _) (ev_at rfl)) ?_); refine wl_nil ?_)
      | ((with_reducible apply wp_region_plain (id := 3)); refine wl_of rfl (wp_callL (cbT rfl) EvL.n ?_); refine (known_ct hS).mono ?_; rintro e w ⟨rfl, hS⟩; refine ⟨_, rfl, wl_put (by simp only [lset] <;> rfl) ?_⟩; refine xv (ex_assign (ev_at rfl)) ?_; refine wl_nil ?_)
      | ((fail_if_success (with_reducible apply wp_region_plain)); (fail_if_success (with_reducible apply wp_region_GS)); go_step))
    refine end1 (by first | exact .inl rfl | exact .inr rfl) rfl (ResL.rt rfl ResL.rn) ?_
    exact ⟨rfl, hS.drop⟩
  rw [hc] at hrk
  by_cases hby : by_ = 0
  case pos =>
    subst hby
    go_enter Try.func5, Try.ntmps5
    repeat' (first
      | ((with_reducible apply wp_region_plain (id := 0)); refine wl_of rfl (wp_boxN (ev_at rfl) hS fun b3 w hS => wl_put (by simp only [lset] <;> rfl) ?_); refine xv (ex_assign (ev_const _ _)) ?_; refine wl_nil ?_)
      | ((with_reducible apply wp_region_plain (id := 1)); (first | refine xv (ex_fa (ev_at rfl) (flT rfl)) ?_ | refine xv (ex_faE (ev_at rfl) (flT rfl) (by assumption) (by assumption)) ?_); refine xv (ex_load (ev_at rfl) (ld1 hS (kdT rfl) rfl)) ?_; (first | refine xv (ex_fa (ev_at rfl) (flT rfl)) ?_ | refine xv (ex_faE (ev_at rfl) (flT rfl) (by assumption) (by assumption)) ?_); refine xv (ex_load (ev_at rfl) (ld1 hS (kdT rfl) rfl)) ?_; refine xv (ex_len (ev_at rfl) (slT rfl) (by first | assumption | exact IsSl.nil)) ?_; refine xv (ex_min2r (r := (m : Int)) (ev_at rfl) (ev_const _ _) hm1) ?_; refine xv (ex_sliceH (ev_at rfl) (ev_at rfl) (slT rfl) (szT rfl) (by first | assumption | exact IsSl.nil) (by omega) (by omega)) ?_; (first | refine xv (ex_fa (ev_at rfl) (flT rfl)) ?_ | refine xv (ex_faE (ev_at rfl) (flT rfl) (by assumption) (by assumption)) ?_); refine wl_of rfl (wp_store1 (ev_at rfl) (ev_at rfl) hS (szT rfl) rfl (IsSl.one hv2) fun w hS => wl_put0 ?_); refine wl_nil ?_; (try simp only [lset, splice, sub, List.take_succ_cons, List.take_zero, List.drop_succ_cons, List.drop_zero, List.nil_append, List.cons_append, List.length_cons, List.length_nil, Nat.reduceAdd, Nat.zero_add, rep_zero] at hS))
      | ((with_reducible apply wp_region_plain (id := 2)); refine wl_of rfl (wp_callL (cbT rfl) EvL.n ?_); refine (known_ct hS).mono ?_; rintro e w ⟨rfl, hS⟩; refine ⟨_, rfl, wl_put (by simp only [lset] <;> rfl) ?_⟩; refine xv (ex_not (ev_at rfl)) ?_; refine xv (ex_move (ev_at rfl)) ?_; (first | refine wl_skip rfl rfl (by simp only [lset] <;> rfl) ?_ | (refine xv (ex_load (ev_at rfl) (ldN hS (kdT rfl) (szT rfl) rfl)) ?_)); (first | refine wl_skip rfl rfl (by simp only [lset] <;> rfl) ?_ | (refine wl_of rfl (wp_callL (cbT rfl) (EvL.c (ev_at rfl) EvL.n) ?_); refine (hrk _ _ _ hv2 hS).mono ?_; rintro e w ⟨rfl, hS⟩; refine ⟨_, rfl, wl_put (by simp only [lset] <;> rfl) ?_⟩)); (first | refine wl_skip rfl rfl (by simp only [lset] <;> rfl) ?_ | (refine xv (ex_cmp (ev_at rfl) (ev_const _ _) (by first | exact neqT (by omega) | exact neqF (by omega) | rfl)) ?_)); (first | refine xv (ex_pickT (ev_at rfl) (ev_const _ _)) ?_ | refine xv (ex_pickF (ev_at rfl) (ev_at rfl)) ?_ | refine xv (ex_pickOr (ev_at rfl) (ev_const _ _) (ev_at rfl)) ?_); refine xv (ex_move (ev_at rfl)) ?_; (first | refine wl_skip rfl rfl (by simp only [lset] <;> rfl) ?_ | (refine xv (ex_move (ev_at rfl)) ?_)); (first | refine wl_skip rfl rfl (by simp only [lset] <;> rfl) ?_ | (refine xv (ex_cmp (ev_at rfl) (ev_const _ _) (by first | exact eqlT (by omega) | exact eqlF (by omega) | rfl)) ?_)); (first | refine xv (ex_pickT (ev_at rfl) (ev_const _ _)) ?_ | refine xv (ex_pickF (ev_at rfl) (ev_at rfl)) ?_ | refine xv (ex_pickOr (ev_at rfl) (ev_const _ _) (ev_at rfl)) ?_); refine wl_nil ?_)
      | ((with_reducible apply wp_region_plain (id := 3)); refine wl_of rfl (wp_callL (cbT rfl) EvL.n ?_); refine (known_ct hS).mono ?_; rintro e w ⟨rfl, hS⟩; refine ⟨_, rfl, wl_put (by simp only [lset] <;> rfl) ?_⟩; refine xv (ex_assign (ev_at rfl)) ?_; refine wl_nil ?_)
      | ((fail_if_success (with_reducible apply wp_region_plain)); (fail_if_success (with_reducible apply wp_region_GS)); go_step))
    refine end1 (by first | exact .inl rfl | exact .inr rfl) rfl (ResL.rt rfl ResL.rn) ?_
    exact ⟨rfl, hS.drop⟩
  have hby2 : by_.toNat ≠ 0 := fun h => hby (UInt8.toNat_inj.1 h)
  have hat := at_.toNat_lt
  have hre := fun (w : World) (L2 : List Ch) (u : Value) (hu : IsSl u m) (hr2 : Rds I L2 u (P.bytes.map byteV)) hS => rencode_ct (w := w) (I := I) (L := L2) P u hc (by rw [hm3]; exact hu) hr2 hS
  unfold partV at hre
  have htm := tamper hc at_ by_ hby
  have hel := encode_len P
  generalize encode P = E at hre htm hel
  have hcE : E[at_.toNat]? = some (E.getD at_.toNat 0) := by rw [List.getD, List.getElem?_eq_getElem (by omega)]; rfl
  generalize E.getD at_.toNat 0 = c at htm hcE
  generalize hB : E.set at_.toNat (c ^^^ by_) = B at htm
  have hBl : B.length = 256 := by rw [← hB]; simp [hel]
  have hset : ∀ k, k = at_.toNat → (E.map byteV).set k (byteV (c ^^^ by_)) = B.map byteV := by rintro k rfl; rw [← List.map_set, hB]
  have hdc := fun (w : World) (L2 : List Ch) (u : Value) (hu : IsSl u 256) (hr : Rds I L2 u (B.map byteV)) hS => decode_ct (w := w) (I := I) (L := L2) u B 256 hu hBl hr (by omega) hS
  generalize RC.decode B = D at htm hdc
  obtain ⟨G, err⟩ := D
  simp only at htm hdc
  unfold partV at hdc
  go_enter Try.func5, Try.ntmps5
  repeat' (first
    | ((with_reducible apply wp_region_plain (id := 0)); refine wl_of rfl (wp_boxN (ev_at rfl) hS fun b3 w hS => wl_put (by simp only [lset] <;> rfl) ?_); refine xv (ex_assign (ev_const _ _)) ?_; refine wl_nil ?_)
    | ((with_reducible apply wp_region_plain (id := 1)); (first | refine xv (ex_fa (ev_at rfl) (flT rfl)) ?_ | refine xv (ex_faE (ev_at rfl) (flT rfl) (by assumption) (by assumption)) ?_); refine xv (ex_load (ev_at rfl) (ld1 hS (kdT rfl) rfl)) ?_; (first | refine xv (ex_fa (ev_at rfl) (flT rfl)) ?_ | refine xv (ex_faE (ev_at rfl) (flT rfl) (by assumption) (by assumption)) ?_); refine xv (ex_load (ev_at rfl) (ld1 hS (kdT rfl) rfl)) ?_; refine xv (ex_len (ev_at rfl) (slT rfl) (by first | assumption | exact IsSl.nil)) ?_; refine xv (ex_min2r (r := (m : Int)) (ev_at rfl) (ev_const _ _) hm1) ?_; refine xv (ex_sliceH (ev_at rfl) (ev_at rfl) (slT rfl) (szT rfl) (by first | assumption | exact IsSl.nil) (by omega) (by omega)) ?_; (first | refine xv (ex_fa (ev_at rfl) (flT rfl)) ?_ | refine xv (ex_faE (ev_at rfl) (flT rfl) (by assumption) (by assumption)) ?_); refine wl_of rfl (wp_store1 (ev_at rfl) (ev_at rfl) hS (szT rfl) rfl (IsSl.one hv2) fun w hS => wl_put0 ?_); refine wl_nil ?_; (try simp only [lset, splice, sub, List.take_succ_cons, List.take_zero, List.drop_succ_cons, List.drop_zero, List.nil_append, List.cons_append, List.length_cons, List.length_nil, Nat.reduceAdd, Nat.zero_add, rep_zero] at hS))
    | ((with_reducible apply wp_region_plain (id := 2)); refine wl_of rfl (wp_callL (cbT rfl) EvL.n ?_); refine (known_ct hS).mono ?_; rintro e w ⟨rfl, hS⟩; refine ⟨_, rfl, wl_put (by simp only [lset] <;> rfl) ?_⟩; refine xv (ex_not (ev_at rfl)) ?_; refine xv (ex_move (ev_at rfl)) ?_; (first | refine wl_skip rfl rfl (by simp only [lset] <;> rfl) ?_ | (refine xv (ex_load (ev_at rfl) (ldN hS (kdT rfl) (szT rfl) rfl)) ?_)); (first | refine wl_skip rfl rfl (by simp only [lset] <;> rfl) ?_ | (refine wl_of rfl (wp_callL (cbT rfl) (EvL.c (ev_at rfl) EvL.n) ?_); refine (hrk _ _ _ hv2 hS).mono ?_; rintro e w ⟨rfl, hS⟩; refine ⟨_, rfl, wl_put (by simp only [lset] <;> rfl) ?_⟩)); (first | refine wl_skip rfl rfl (by simp only [lset] <;> rfl) ?_ | (refine xv (ex_cmp (ev_at rfl) (ev_const _ _) (by first | exact neqT (by omega) | exact neqF (by omega) | rfl)) ?_)); (first | refine xv (ex_pickT (ev_at rfl) (ev_const _ _)) ?_ | refine xv (ex_pickF (ev_at rfl) (ev_at rfl)) ?_ | refine xv (ex_pickOr (ev_at rfl) (ev_const _ _) (ev_at rfl)) ?_); refine xv (ex_move (ev_at rfl)) ?_; (first | refine wl_skip rfl rfl (by simp only [lset] <;> rfl) ?_ | (refine xv (ex_move (ev_at rfl)) ?_)); (first | refine wl_skip rfl rfl (by simp only [lset] <;> rfl) ?_ | (refine xv (ex_cmp (ev_at rfl) (ev_const _ _) (by first | exact eqlT (by omega) | exact eqlF (by omega) | rfl)) ?_)); (first | refine xv (ex_pickT (ev_at rfl) (ev_const _ _)) ?_ | refine xv (ex_pickF (ev_at rfl) (ev_at rfl)) ?_ | refine xv (ex_pickOr (ev_at rfl) (ev_const _ _) (ev_at rfl)) ?_); refine wl_nil ?_)
    | ((with_reducible apply wp_region_plain (id := 4)); refine xv (ex_load (ev_at rfl) (ldN hS (kdT rfl) (szT rfl) rfl)) ?_; refine wl_of rfl (wp_callL (cbT rfl) (EvL.c (ev_at rfl) EvL.n) ?_); refine (hre _ _ _ hv2 hr2.all hS).mono ?_; rintro e w ⟨u32, rfl, hu32, hS⟩; refine ⟨_, rfl, wl_put (by simp only [lset] <;> rfl) ?_⟩; refine xv (ex_assign (ev_at rfl)) ?_; refine wl_nil ?_)
    | ((with_reducible apply wp_region_plain (id := 5)); refine wl_of rfl (wp_buildSlice (slT rfl) (szT rfl) (zeT rfl) Fills.nil hS rfl (by first | rfl | assumption) fun b33 w hS => wl_put (by simp only [lset] <;> rfl) ?_); refine xv (ex_move (ev_at rfl)) ?_; refine wl_of rfl (wp_append (ev_at rfl) (ev_at rfl) (slT rfl) (szT rfl) (byT rfl) (zeT rfl) hS (by first | exact srcR hS | exact srcI hS (by assumption) (by assumption)) (by omega) (by omega) rfl fun v35 w hS hv35 => wl_put (by simp only [lset] <;> rfl) ?_); refine xv (ex_assign (ev_at rfl)) ?_; refine wl_nil ?_; (try simp only [lset, splice, sub, List.take_succ_cons, List.take_zero, List.drop_succ_cons, List.drop_zero, List.nil_append, List.cons_append, List.length_cons, List.length_nil, Nat.reduceAdd, Nat.zero_add, rep_zero] at hS))
    | ((with_reducible apply wp_region_plain (id := 6)); refine xv (ex_move (ev_at rfl)) ?_; refine xv (ex_move (ev_at rfl)) ?_; (first | refine xv (ex_iaN (ev_at rfl) (ev_at rfl) (slT rfl) (szT rfl) (by first | assumption | exact IsSl.nil) (by omega)) ?_ | refine xv (ex_ia (ev_at rfl) (ev_at rfl) (slT rfl) (szT rfl) (by first | assumption | exact IsSl.nil) (by omega) (by omega)) ?_); refine xv (ex_load (ev_at rfl) (ldE1 (u := byteV c) ((hS.rowH (v := v35)).2.2.1) hv35 (m := at_.toNat) (by omega) (kdT rfl) (byteGet hcE (by omega)))) ?_; refine xv (ex_move (ev_at rfl)) ?_; refine xv (ex_xor8 (ev_at rfl) (ev_at rfl)) ?_; (first | refine xv (ex_iaN (ev_at rfl) (ev_at rfl) (slT rfl) (szT rfl) (by first | assumption | exact IsSl.nil) (by omega)) ?_ | refine xv (ex_ia (ev_at rfl) (ev_at rfl) (slT rfl) (szT rfl) (by first | assumption | exact IsSl.nil) (by omega) (by omega)) ?_); refine wl_of rfl (wp_storeETo (u := byteV (c ^^^ by_)) (ev_at rfl) (ev_at rfl) hS (szT rfl) (by simp [hel]; omega) rfl (hset _ (by omega)) fun w hS => wl_put0 ?_); refine wl_nil ?_; (try simp only [lset, splice, sub, List.take_succ_cons, List.take_zero, List.drop_succ_cons, List.drop_zero, List.nil_append, List.cons_append, List.length_cons, List.length_nil, Nat.reduceAdd, Nat.zero_add, rep_zero] at hS))
    | ((with_reducible apply wp_region_plain (id := 7)); refine xv (ex_move (ev_at rfl)) ?_; refine wl_of rfl (wp_callL (cbT rfl) (EvL.c (ev_at rfl) EvL.n) ?_); refine (hdc _ _ _ (by simpa using hv35) Rds.row hS).mono ?_; rintro e w ⟨u45, rfl, hu45, hS⟩; refine ⟨_, rfl, wl_put (by simp only [lset] <;> rfl) ?_⟩; refine xv (ex_move (ev_at rfl)) ?_; refine xv (ex_extract (ev_at rfl) rfl) ?_; refine xv (ex_extract (ev_at rfl) rfl) ?_; refine wl_of rfl (wp_alloc hS (zeT rfl) fun b9 w hS => wl_put (by simp only [lset] <;> rfl) ?_); refine wl_of rfl (wp_storeN (ev_at rfl) (ev_at rfl) hS (szT rfl) rfl (by first | rfl | assumption | (simp only [sub, splice, List.take_succ_cons, List.take_zero, List.drop_succ_cons, List.drop_zero, List.nil_append, List.cons_append, List.length_cons, List.length_nil, Nat.reduceAdd, List.all_cons, List.all_nil, Bool.and_eq_true, Bool.and_true]; ((repeat' apply And.intro) <;> first | rfl | assumption | exact IsSl.one (by assumption)))) fun w hS => wl_put0 ?_); refine xv (ex_assign (ev_at rfl)) ?_; refine wl_nil ?_; (try simp only [lset, splice, sub, List.take_succ_cons, List.take_zero, List.drop_succ_cons, List.drop_zero, List.nil_append, List.cons_append, List.length_cons, List.length_nil, Nat.reduceAdd, Nat.zero_add, rep_zero] at hS))
    | ((fail_if_success (with_reducible apply wp_region_plain)); (fail_if_success (with_reducible apply wp_region_GS)); go_step))
  by_cases he : err = 22
  · subst he
    repeat' (first
      | ((with_reducible apply wp_region_GS (id := 8) 10 (fun j => [0, 1, 2, 3, 4, 5, 6, 7, 8, 9].contains j) mixed); rfl; exact hS; (clear hS; intro w hS); refine xp 0 rfl rfl (fun w => ex_move (ev_at rfl)) ?_; refine xp 1 rfl rfl (fun w => ex_cmp (ev_at rfl) (ev_const _ _) (by first | exact eqlT (by omega) | exact eqlF (by omega) | rfl)) ?_; refine xp 2 rfl rfl (fun w => ex_move (ev_at rfl)) ?_; (first | refine wg_skip 3 (by decide +kernel) rfl rfl (fun _ _ _ h => h) rfl (by simp only [lset] <;> rfl) ?_ | (refine xp 3 rfl rfl (fun w => ex_move (ev_at rfl)) ?_)); (first | refine wg_skip 4 (by decide +kernel) rfl rfl (fun _ _ _ h => h) rfl (by simp only [lset] <;> rfl) ?_ | (refine xp 4 rfl rfl (fun w => ex_sliceL (ev_at rfl) (ev_const _ _) (slT rfl) (szT rfl) (by first | assumption | exact IsSl.nil) (by omega) (by omega)) ?_)); (first | refine wg_skip 5 (by decide +kernel) rfl rfl (fun _ _ _ h => h) rfl (by simp only [lset] <;> rfl) ?_ | (refine xp 5 rfl rfl (fun w => ex_move (ev_at rfl)) ?_)); (first | refine wg_skip 6 (by decide +kernel) rfl rfl (fun _ _ _ h => h) rfl (by simp only [lset] <;> rfl) ?_ | (refine xp 6 rfl rfl (fun w => ex_sliceL (ev_at rfl) (ev_const _ _) (slT rfl) (szT rfl) (by first | assumption | exact IsSl.nil) (by omega) (by omega)) ?_)); (first | refine wg_skip 7 (by decide +kernel) rfl rfl (fun _ _ _ h => h) rfl (by simp only [lset] <;> rfl) ?_ | (fail "no contract for bulletin/bulletinlaw23.collide (26)")); (first | refine xp 8 rfl rfl (fun w => ex_pickT (ev_at rfl) (ev_const _ _)) ?_ | refine xp 8 rfl rfl (fun w => ex_pickF (ev_at rfl) (ev_at rfl)) ?_ | refine xp 8 rfl rfl (fun w => ex_pickOr (ev_at rfl) (ev_const _ _) (ev_at rfl)) ?_); refine xp 9 rfl rfl (fun w => ex_assign (ev_at rfl)) ?_; refine wg_end (by decide +kernel) ?_)
      | ((fail_if_success (with_reducible apply wp_region_plain)); (fail_if_success (with_reducible apply wp_region_GS)); go_step))
    refine end1 (by first | exact .inl rfl | exact .inr rfl) rfl (ResL.rt rfl ResL.rn) ?_
    exact ⟨rfl, hS.drop.drop.drop.drop.drop⟩
  · have hcol := htm.resolve_left he
    have hv35b : IsSl v35 256 := by simpa using hv35
    clear hv35
    have hd1 := hu32.slv (l := 16) (h := 256) (sz := 1) (by omega) (by omega)
    have hd2 := hv35b.slv (l := 16) (h := 256) (sz := 1) (by omega) (by omega)
    repeat' (first
      | ((with_reducible apply wp_region_GS (id := 8) 10 (fun j => [0, 1, 2, 3, 4, 5, 6, 7, 8, 9].contains j) mixed); rfl; exact hS; (clear hS; intro w hS); refine xp 0 rfl rfl (fun w => ex_move (ev_at rfl)) ?_; refine xp 1 rfl rfl (fun w => ex_cmp (ev_at rfl) (ev_const _ _) (by first | exact eqlT (by omega) | exact eqlF (by omega) | rfl)) ?_; refine xp 2 rfl rfl (fun w => ex_move (ev_at rfl)) ?_; (first | refine wg_skip 3 (by decide +kernel) rfl rfl (fun _ _ _ h => h) rfl (by simp only [lset] <;> rfl) ?_ | (refine xp 3 rfl rfl (fun w => ex_move (ev_at rfl)) ?_)); (first | refine wg_skip 4 (by decide +kernel) rfl rfl (fun _ _ _ h => h) rfl (by simp only [lset] <;> rfl) ?_ | (refine xp 4 rfl rfl (fun w => ex_sliceL (ev_at rfl) (ev_const _ _) (slT rfl) (szT rfl) (by first | assumption | exact IsSl.nil) (by omega) (by omega)) ?_)); (first | refine wg_skip 5 (by decide +kernel) rfl rfl (fun _ _ _ h => h) rfl (by simp only [lset] <;> rfl) ?_ | (refine xp 5 rfl rfl (fun w => ex_move (ev_at rfl)) ?_)); (first | refine wg_skip 6 (by decide +kernel) rfl rfl (fun _ _ _ h => h) rfl (by simp only [lset] <;> rfl) ?_ | (refine xp 6 rfl rfl (fun w => ex_sliceL (ev_at rfl) (ev_const _ _) (slT rfl) (szT rfl) (by first | assumption | exact IsSl.nil) (by omega) (by omega)) ?_)); (first | refine wg_skip 7 (by decide +kernel) rfl rfl (fun _ _ _ h => h) rfl (by simp only [lset] <;> rfl) ?_ | (refine wg_loud 7 (by decide +kernel) rfl rfl (wp_callL (cbT rfl) (EvL.c (ev_at rfl) (EvL.c (ev_at rfl) EvL.n)) ?_); refine (collideT_ct (slv u32 16 256 1) (slv v35 16 256 1) _ _ 240 hd1 hd2 (by simp [hel]) (by simp [hBl]) (by omega) (Rds.from16 (Rds.at 3 rfl) hu32 hel) (Rds.from16 (Rds.at 2 rfl) hv35b hBl) hcol hS).mono ?_; rintro e w ⟨rfl, hS⟩; refine ⟨_, rfl, ⟨gsT hS, wg_p (by simp only [lset] <;> rfl) ?_⟩⟩)); (first | refine xp 8 rfl rfl (fun w => ex_pickT (ev_at rfl) (ev_const _ _)) ?_ | refine xp 8 rfl rfl (fun w => ex_pickF (ev_at rfl) (ev_at rfl)) ?_ | refine xp 8 rfl rfl (fun w => ex_pickOr (ev_at rfl) (ev_const _ _) (ev_at rfl)) ?_); refine xp 9 rfl rfl (fun w => ex_assign (ev_at rfl)) ?_; refine wg_end (by decide +kernel) ?_)
      | ((fail_if_success (with_reducible apply wp_region_plain)); (fail_if_success (with_reducible apply wp_region_GS)); go_step))
    refine end1 (by first | exact .inl rfl | exact .inr rfl) rfl (ResL.rt rfl ResL.rn) ?_
    exact ⟨rfl, hS.drop.drop.drop.drop.drop⟩
end
end Go.Proofs.Try
