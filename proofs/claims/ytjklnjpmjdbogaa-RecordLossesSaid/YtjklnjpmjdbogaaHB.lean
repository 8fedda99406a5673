/- The law's own functions: sectors. -/
import Derived.Test.YtjklnjpmjdbogaaG2
namespace Go.Proofs.Try
open Go.RowKit Go.SL Go.SH Go.RC
set_option maxRecDepth 100000
set_option linter.unusedSimpArgs false
set_option linter.unusedVariables false
section
variable {w : World} {I : Gh} {L : List Ch}
theorem wp_copyRow {a : Act} {K : Act → World → Prop} {Q : Exit → Act → World → Prop} {dst : Option Tmp} {x y : Operand} {ty : TypeId} {pos : String} {af : Array Edge} {gd : Option (Nat × Bool)} {el E dT sT : TypeId} {rep : Ch → List Ch} {v u : Value} {l n m : Nat} {xs news : List Value}
    (hx : a.eval x = slv v l n 1) (hy : a.eval y = u) (hu : sliceB Try.prog dT = some el) (hs : sizeB Try.prog el = some 1) (hS : Sat w I L) [hi : HasRow L v E 1 n xs rep] (hl : l ≤ n) (hn0 : 0 < n) (hsrc : Src w u m 1 news) (hm : m = n - l)
    (h : ∀ w', Sat w' I (rep (Row v E 1 n (xs.take l ++ news))) → K (a.put dst (.int .i64 m)) w') :
    Oper.wp Try.prog ⟨dst, .call ⟨.builtin .copy, #[x, y], #[dT, sT]⟩, ty, pos, af, gd⟩ a w K Q := by
  unfold sliceB at hu
  split at hu
  case h_2 => cases hu
  rename_i el' hu'
  injection hu with hu; subst hu
  subst hm
  obtain ⟨g, cap, rest, rfl, hnc, hxl, hxo, hrl, hb⟩ := hS.rowBlk (hi := hi) hn0
  obtain ⟨q, c2, rfl, hmc, hq⟩ := hsrc.is.ex
  have hnl : news.length = n - l := by simpa using hsrc.len
  rw [Nat.mul_one] at hxl hrl
  by_cases h0 : n - l = 0
  · have hr := run_copy_none (P := Try.prog) w dT sT ty el' (if cap = l then some ⟨g, 0, none⟩ else (some ⟨g, 0, none⟩ : Option Addr).map (·.add (l * 1))) q (n - l) (cap - l) (n - l) c2 hu' hs (by rw [h0]; rfl)
    have e : xs.take l ++ news = xs := by
      rw [List.eq_nil_of_length_eq_zero (by omega : news.length = 0), List.append_nil, List.take_of_length_le (by omega)]
    rw [e] at h
    obtain ⟨i, hi', e2⟩ := hi.has
    have hS' := h w (by rw [e2, set_same hi']; exact hS)
    rw [h0] at hS' hr hy
    unfold Oper.wp execOp
    simp only [slv, h0] at hx
    simp only [resolve, invoke, builtin, Sem.run_bind, Sem.run_pure, Result.andThen_ok, List.map_toArray, List.map_cons, List.map_nil, hx, hy, hr]
    exact hS'
  · have hne : q ≠ none := fun e => by have := hq e; omega
    obtain ⟨ad, rfl⟩ := Option.ne_none_iff_exists'.1 hne
    have hcl : ¬ cap = l := by omega
    have hrd := hsrc.rd _ _ _ rfl
    have hr := run_copy_row (P := Try.prog) w dT sT ty el' g l (n - l) (cap - l) ad (n - l) c2 (xs ++ rest).toArray E news hu' hs hb (by rw [hnl]; exact (Nat.min_self _).symm) hrd (by rw [hnl]; simp; omega) hsrc.oc
    have ht : (xs ++ rest).take l ++ news ++ (xs ++ rest).drop (l + news.length) = (xs.take l ++ news) ++ rest := by
      rw [List.take_append_of_le_length (by omega), hnl, show l + (n - l) = xs.length from by omega, List.drop_left]
    simp only [ht] at hr
    have hup := hS.updRow (hi := hi) (m := n) (ys := xs.take l ++ news) (cur := rest) rfl hnc (by simp [hnl]; omega) (fun x hx => by
      rcases List.mem_append.1 hx with h | h
      · exact hxo x (List.mem_of_mem_take h)
      · exact hsrc.oc x h) (by simp [hnl, hrl]; omega)
    have := h _ hup
    rw [hnl] at hr
    unfold Oper.wp execOp
    simp only [slv, hcl, if_false, Option.map_some, Nat.mul_one, Addr.add_lit, Nat.zero_add] at hx
    simp only [resolve, invoke, builtin, Sem.run_bind, Sem.run_pure, Result.andThen_ok, List.map_toArray, List.map_cons, List.map_nil, hx, hy, hr]
    exact this
set_option maxHeartbeats 4000000 in
theorem seal2_ct (v : Value) (bs : List UInt8) (n : Nat) (hv : IsSl v n) (hl : bs.length = n) (hr : Rds I L v (bs.map byteV)) (hb : n ≤ 140737488351232) (hS : Sat w I L) : Calls Try.prog 55 #[v] w fun e w' => ∃ u, e = .returned u ∧ IsSl u 256 ∧ Sat w' I (Row u 5 1 256 ((sealB bs).map byteV) :: L) := by
  go_enter Try.func55, Try.ntmps55
  repeat' (first
    | ((with_reducible apply wp_region_plain (id := 0)); refine xv (ex_assign (ev_const _ _)) ?_; refine wl_nil ?_)
    | ((with_reducible apply wp_region_plain (id := 1)); refine wl_of rfl (wp_buildSlice (slT rfl) (szT rfl) (zeT rfl) Fills.nil hS rfl (by first | rfl | assumption) fun b5 w hS => wl_put (by simp only [lset] <;> rfl) ?_); refine xv (ex_move (ev_at rfl)) ?_; refine wl_of rfl (wp_append (ev_at rfl) (ev_at rfl) (slT rfl) (szT rfl) (byT rfl) (zeT rfl) hS (Rds.src hr hS hv (by simp [hl]) (byteV_Oc _)) (by omega) (by omega) rfl fun v7 w hS hv7 => wl_put (by simp only [lset] <;> rfl) ?_); refine xv (ex_assign (ev_at rfl)) ?_; refine wl_nil ?_; (try simp only [lset, splice, sub, List.take_succ_cons, List.take_zero, List.drop_succ_cons, List.drop_zero, List.nil_append, List.cons_append, List.length_cons, List.length_nil, Nat.reduceAdd, Nat.zero_add, rep_zero] at hS))
    | ((fail_if_success (with_reducible apply wp_region_plain)); (fail_if_success (with_reducible apply wp_region_GS)); go_step))
  refine wp_loopM [false, false, false, true, false, false, false, false, true, true, true, true, true, true] (fun m f w => ∃ (k : Nat) (u : Value), m = 240 - n - k ∧ f 3 = u ∧ (k = 0 ∨ n + k ≤ 240) ∧ Sat w I (Row u 5 1 (n + k) ((bs ++ List.replicate k 0).map byteV) :: L)) rfl (240 - n) ⟨0, v7, rfl, rfl, .inl rfl, by simpa using hS⟩ ?_
  clear hS
  rintro m f w ⟨k, u, rfl, h3, hk, hS⟩
  simp only [havoc, Nat.reduceAdd, h3]
  have hui := (hS.rowH (v := u)).1
  by_cases hlt : n + k < 240
  case pos =>
    repeat' (first
      | ((with_reducible apply wp_region_plain (id := 2)); refine xv (ex_move (ev_at rfl)) ?_; refine xv (ex_len (ev_at rfl) (slT rfl) (by first | assumption | exact IsSl.nil)) ?_; refine xv (ex_cmp (ev_at rfl) (ev_const _ _) (by first | exact lssT (by omega) | exact lssF (by omega) | rfl)) ?_; refine wl_nil ?_)
      | ((with_reducible apply wp_region_plain (id := 3)); refine xv (ex_move (ev_at rfl)) ?_; refine wl_of rfl (wp_buildSlice (slT rfl) (szT rfl) (zeT rfl) (fillsOne1 (ev_const _ _) (by first | rfl | exact IsSl.one (by assumption))) hS rfl (by first | rfl | assumption | (simp only [sub, splice, List.take_succ_cons, List.take_zero, List.drop_succ_cons, List.drop_zero, List.nil_append, List.cons_append, List.length_cons, List.length_nil, Nat.reduceAdd, List.all_cons, List.all_nil, Bool.and_eq_true, Bool.and_true]; ((repeat' apply And.intro) <;> first | rfl | assumption | exact IsSl.one (by assumption)))) fun b12 w hS => wl_put (by simp only [lset] <;> rfl) ?_); refine wl_of rfl (wp_append1 (ev_at rfl) (ev_at rfl) (slT rfl) (szT rfl) (byT rfl) (zeT rfl) hS (by omega) (by omega) rfl fun v13 w hS hv13 => wl_put (by simp only [lset] <;> rfl) ?_); refine xv (ex_assign (ev_at rfl)) ?_; refine wl_nil ?_; (try simp only [lset, splice, sub, List.take_succ_cons, List.take_zero, List.drop_succ_cons, List.drop_zero, List.nil_append, List.cons_append, List.length_cons, List.length_nil, Nat.reduceAdd, Nat.zero_add, rep_zero] at hS))
      | ((fail_if_success (with_reducible apply wp_region_plain)); (fail_if_success (with_reducible apply wp_region_GS)); go_step))
    have e : (bs ++ List.replicate k 0).map byteV ++ [.int .u8 0] = (bs ++ List.replicate (k + 1) 0).map byteV := by
      rw [List.replicate_succ', ← List.append_assoc, List.map_append (l₂ := [0])]; rfl
    rw [e] at hS
    exact loopEndM rfl (240 - n - (k + 1)) ⟨k + 1, _, rfl, rfl, .inr (by omega), hS⟩ (by omega)
  have hft := fill_take bs k (by omega)
  have hv2 := hui.slv (l := 0) (h := 240) (sz := 1) (by omega) (by omega)
  rw [Nat.sub_zero] at hv2
  have hr2 : Rds I (Row u 5 1 (n + k) ((bs ++ List.replicate k 0).map byteV) :: L) (slv u 0 240 1) ((fill240 bs).map byteV) := by
    have := Rds.part (I := I) (L := Row u 5 1 (n + k) ((bs ++ List.replicate k 0).map byteV) :: L) Rds.row hui (l := 0) (h := 240) (by omega) (by omega)
    rwa [List.drop_zero, Nat.sub_zero, hft] at this
  have h240 := fill240_len bs
  have hsl : sealB bs = (SH.sha (fill240 bs)).take 16 ++ fill240 bs := rfl
  generalize fill240 bs = Z at hr2 h240 hsl
  have hsm := fun (w : World) (L2 : List Ch) (hr2 : Rds I L2 (slv u 0 240 1) (Z.map byteV)) hS => rsum_ct (w := w) (I := I) (L := L2) (slv u 0 240 1) Z 240 hv2 h240 hr2 (by omega) hS
  have hdl : ((SH.sha Z).map byteV).length = 32 := by simp [shaLen]
  have htk : ((SH.sha Z).map byteV).take 16 = ((SH.sha Z).take 16).map byteV := by rw [List.map_take]
  generalize hdv : (SH.sha Z).map byteV = dv at hsm hdl htk
  have hdo : Oc dv := by rw [← hdv]; exact byteV_Oc _
  have hd2 : (dv.take 16).length = 16 * 1 := by simp [hdl]
  have hd3 : Oc (dv.take 16) := fun x hx => hdo x (List.mem_of_mem_take hx)
  repeat' (first
    | ((with_reducible apply wp_region_plain (id := 2)); refine xv (ex_move (ev_at rfl)) ?_; refine xv (ex_len (ev_at rfl) (slT rfl) (by first | assumption | exact IsSl.nil)) ?_; refine xv (ex_cmp (ev_at rfl) (ev_const _ _) (by first | exact lssT (by omega) | exact lssF (by omega) | rfl)) ?_; refine wl_nil ?_)
    | ((with_reducible apply wp_region_plain (id := 4)); refine xv (ex_move (ev_at rfl)) ?_; refine xv (ex_sliceH (ev_at rfl) (ev_const _ _) (slT rfl) (szT rfl) (by first | assumption | exact IsSl.nil) (by omega) (by omega)) ?_; refine xv (ex_assign (ev_at rfl)) ?_; refine wl_nil ?_)
    | ((with_reducible apply wp_region_plain (id := 5)); refine xv (ex_move (ev_at rfl)) ?_; refine wl_of rfl (wp_callL (cbT rfl) (EvL.c (ev_at rfl) EvL.n) ?_); refine (hsm _ _ hr2.le hS).mono ?_; rintro e w ⟨rfl, hS⟩; refine ⟨_, rfl, wl_put (by simp only [lset] <;> rfl) ?_⟩; refine wl_of rfl (wp_alloc hS (zeT rfl) fun b4 w hS => wl_put (by simp only [lset] <;> rfl) ?_); refine wl_of rfl (wp_storeW (vs := dv) (ev_at rfl) (ev_at rfl) hS (szT rfl) hdl rfl hdo fun w hS => wl_put0 ?_); refine wl_nil ?_; (try simp only [lset, splice, sub, List.take_succ_cons, List.take_zero, List.drop_succ_cons, List.drop_zero, List.nil_append, List.cons_append, List.length_cons, List.length_nil, Nat.reduceAdd, Nat.zero_add, rep_zero] at hS))
    | ((with_reducible apply wp_region_plain (id := 6)); refine wl_of rfl (wp_buildSlice (slT rfl) (szT rfl) (zeT rfl) Fills.nil hS rfl (by first | rfl | assumption) fun b18 w hS => wl_put (by simp only [lset] <;> rfl) ?_); refine xv (ex_sliceAH (ev_at rfl) (ev_const _ _) (arT rfl) (szT rfl) (by omega) (by omega)) ?_; refine wl_of rfl (wp_append (ev_at rfl) (ev_at rfl) (slT rfl) (szT rfl) (byT rfl) (zeT rfl) hS (Rds.src (L := Cells b4 108 dv :: Row u 5 1 (n + k) ((bs ++ List.replicate k 0).map byteV) :: L) (Rds.cellsTake 16) hS (IsSl.lit (n := 16) (by omega)) hd2 hd3) (by omega) (by omega) rfl fun v20 w hS hv20 => wl_put (by simp only [lset] <;> rfl) ?_); refine xv (ex_move (ev_at rfl)) ?_; refine wl_of rfl (wp_append (ev_at rfl) (ev_at rfl) (slT rfl) (szT rfl) (byT rfl) (zeT rfl) hS (Rds.src (L := Row u 5 1 (n + k) ((bs ++ List.replicate k 0).map byteV) :: L) hr2 hS hv2 (by simp [h240]) (byteV_Oc _)) (by omega) (by omega) rfl fun v22 w hS hv22 => wl_put (by simp only [lset] <;> rfl) ?_); refine xv (ex_assign (ev_at rfl)) ?_; refine wl_nil ?_; (try simp only [lset, splice, sub, List.take_succ_cons, List.take_zero, List.drop_succ_cons, List.drop_zero, List.nil_append, List.cons_append, List.length_cons, List.length_nil, Nat.reduceAdd, Nat.zero_add, rep_zero] at hS))
    | ((fail_if_success (with_reducible apply wp_region_plain)); (fail_if_success (with_reducible apply wp_region_GS)); go_step))
  refine end1 (by first | exact .inl rfl | exact .inr rfl) rfl (ResL.rt rfl ResL.rn) ?_
  have hS := hS.del1.del1
  rw [htk] at hS
  have e : [] ++ ((SH.sha Z).take 16).map byteV ++ Z.map byteV = (sealB bs).map byteV := by rw [hsl]; simp
  refine ⟨_, rfl, by simpa using hv22, ?_⟩
  rw [← e]
  simpa using hS
theorem srcPart {v : Value} {bs : List UInt8} {E : TypeId} {l : Nat} {rep : Ch → List Ch} (hS : Sat w I L) [hi : HasRow L v E 1 256 (bs.map byteV) rep] (hv : IsSl v 256) (hl : bs.length = 256) (h : l ≤ 256) : Src w (slv v l 256 1) (256 - l) 1 ((bs.drop l).map byteV) := by
  have h1 := ((hS.rowH (hi := hi)).2.2.1).slv (sz := 1) hv h (Nat.le_refl _)
  have e : sub (bs.map byteV) (l * 1) ((256 - l) * 1) = (bs.drop l).map byteV := by
    simp only [sub, Nat.mul_one]
    rw [← List.map_drop, List.take_of_length_le (by simp [hl])]
  rw [e] at h1
  exact ⟨hv.slv h (Nat.le_refl _), by simp [hl], h1, byteV_Oc _⟩
theorem cutq224 {bs : List UInt8} {v : Value} {n : Nat} (hl : bs.length = n) (hv : IsSl v n) (hr : Rds I L v (bs.map byteV)) : ∃ m : Nat, (if (224 : Int) < (n : Int) then 224 else (n : Int)) = (m : Int) ∧ m ≤ n ∧ (bs.take 224).length = m ∧ IsSl (slv v 0 m 1) m ∧ Rds I L (slv v 0 m 1) ((bs.take 224).map byteV) := by
  obtain ⟨m, hm1, hm2, hm3⟩ : ∃ m : Nat, (if (224 : Int) < (n : Int) then 224 else (n : Int)) = (m : Int) ∧ m ≤ n ∧ (bs.take 224).length = m := by
    by_cases h : (224 : Int) < (n : Int)
    · exact ⟨224, by rw [if_pos h]; rfl, by omega, by simp; omega⟩
    · exact ⟨n, by rw [if_neg h], by omega, by simp; omega⟩
  have hv2 := hv.slv (l := 0) (h := m) (sz := 1) (by omega) hm2
  rw [Nat.sub_zero] at hv2
  refine ⟨m, hm1, hm2, hm3, hv2, ?_⟩
  have := Rds.part hr hv (l := 0) (h := m) (by omega) hm2
  rw [List.drop_zero, Nat.sub_zero] at this
  have e : bs.take m = bs.take 224 := by
    rw [List.take_eq_take_iff, hl]
    simp only [List.length_take] at hm3
    omega
  rwa [e] at this
structure SecS where
  kind : UInt8
  P : PartS
  pv : Value
  O : PartS
  ov : Value
  at_ : UInt8
  by_ : UInt8
  any : List UInt8
  av : Value
def secCells (x : SecS) : List Value := [byteV x.kind, .int .i64 x.P.kind, .int .i64 x.P.gen, .int .i64 x.P.num, .int .i64 x.P.idx, .int .i64 x.P.cnt, x.pv, .int .i64 x.O.kind, .int .i64 x.O.gen, .int .i64 x.O.num, .int .i64 x.O.idx, .int .i64 x.O.cnt, x.ov, byteV x.at_, byteV x.by_, x.av]
structure SecOk (I : Gh) (x : SecS) : Prop where
  pi : IsSl x.pv x.P.bytes.length
  pr : Rds I [] x.pv (x.P.bytes.map byteV)
  oi : IsSl x.ov x.O.bytes.length
  or : Rds I [] x.ov (x.O.bytes.map byteV)
  ai : IsSl x.av x.any.length
  ar : Rds I [] x.av (x.any.map byteV)
  al : x.any.length ≤ 140737488351232
set_option maxHeartbeats 8000000 in
theorem sector_ct (x : SecS) (hx : SecOk I x) (hS : Sat w I L) :
    Calls Try.prog 24 #[.agg (secCells x).toArray] w fun e w' => ∃ u bs, e = .returned u ∧ bs.length = 256 ∧ IsSl u 256 ∧ Sat w' I (Row u 5 1 256 ((bs : List UInt8).map byteV) :: L) := by
  obtain ⟨pi, pr, oi, orr, ai, ar, al⟩ := hx
  obtain ⟨kd, p0, v, o0, u, at_, by_, any, av⟩ := x
  simp only at pi pr oi orr ai ar al
  unfold secCells
  simp only
  obtain ⟨m, hm1, hm2, hm3, hv2, hr2⟩ := cutq224 rfl pi pr
  obtain ⟨m', hm1', hm2', hm3', hv2', hr2'⟩ := cutq224 rfl oi orr
  obtain ⟨P, hP⟩ : ∃ P, P = cutP p0 224 := ⟨_, rfl⟩
  obtain ⟨O, hO⟩ : ∃ P, P = cutP o0 224 := ⟨_, rfl⟩
  have hPb : P.bytes = p0.bytes.take 224 := by rw [hP]; rfl
  have k1 : p0.kind = P.kind := by rw [hP]; rfl
  have k2 : p0.gen = P.gen := by rw [hP]; rfl
  have k3 : p0.num = P.num := by rw [hP]; rfl
  have k4 : p0.idx = P.idx := by rw [hP]; rfl
  have k5 : p0.cnt = P.cnt := by rw [hP]; rfl
  have hOb : O.bytes = o0.bytes.take 224 := by rw [hO]; rfl
  have l1 : o0.kind = O.kind := by rw [hO]; rfl
  have l2 : o0.gen = O.gen := by rw [hO]; rfl
  have l3 : o0.num = O.num := by rw [hO]; rfl
  have l4 : o0.idx = O.idx := by rw [hO]; rfl
  have l5 : o0.cnt = O.cnt := by rw [hO]; rfl
  rw [← hPb] at hm3 hr2
  rw [← hOb] at hm3' hr2'
  generalize p0.bytes.length = n at pi hm1 hm2
  generalize o0.bytes.length = n' at oi hm1' hm2'
  rw [k1, k2, k3, k4, k5, l1, l2, l3, l4, l5]
  clear hP hPb k1 k2 k3 k4 k5 hO hOb l1 l2 l3 l4 l5
  have hrk := fun (w : World) (L2 : List Ch) (u : Value) (hu : IsSl u m) hS => rcheck_ct (w := w) (I := I) (L := L2) P u (by rw [hm3]; exact hu) hS
  have hrk' := fun (w : World) (L2 : List Ch) (u : Value) (hu : IsSl u m') hS => rcheck_ct (w := w) (I := I) (L := L2) O u (by rw [hm3']; exact hu) hS
  unfold partV at hrk hrk'
  have hsl := sealB_len any
  by_cases hc : RC.check P = 0
  case neg =>
    generalize RC.check P = c at hc hrk
    go_enter Try.func24, Try.ntmps24
    repeat' (first
      | ((with_reducible apply wp_region_plain (id := 0)); refine wl_of rfl (wp_boxN (ev_at rfl) hS fun b1 w hS => wl_put (by simp only [lset] <;> rfl) ?_); refine xv (ex_assign (ev_const _ _)) ?_; refine wl_nil ?_)
      | ((with_reducible apply wp_region_plain (id := 1)); (first | refine xv (ex_fa (ev_at rfl) (flT rfl)) ?_ | refine xv (ex_faE (ev_at rfl) (flT rfl) (by assumption) (by assumption)) ?_); refine xv (ex_load (ev_at rfl) (ldN hS (kdT rfl) (szT rfl) rfl)) ?_; refine wl_of rfl (wp_alloc hS (zeT rfl) fun b3 w hS => wl_put (by simp only [lset] <;> rfl) ?_); refine wl_of rfl (wp_storeN (ev_at rfl) (ev_at rfl) hS (szT rfl) rfl (by first | rfl | assumption | (simp only [sub, splice, List.take_succ_cons, List.take_zero, List.drop_succ_cons, List.drop_zero, List.nil_append, List.cons_append, List.length_cons, List.length_nil, Nat.reduceAdd, List.all_cons, List.all_nil, Bool.and_eq_true, Bool.and_true]; ((repeat' apply And.intro) <;> first | rfl | assumption | exact IsSl.one (by assumption)))) fun w hS => wl_put0 ?_); refine wl_nil ?_; (try simp only [lset, splice, sub, List.take_succ_cons, List.take_zero, List.drop_succ_cons, List.drop_zero, List.nil_append, List.cons_append, List.length_cons, List.length_nil, Nat.reduceAdd, Nat.zero_add, rep_zero] at hS))
      | ((with_reducible apply wp_region_plain (id := 2)); (first | refine xv (ex_fa (ev_at rfl) (flT rfl)) ?_ | refine xv (ex_faE (ev_at rfl) (flT rfl) (by assumption) (by assumption)) ?_); refine xv (ex_load (ev_at rfl) (ld1 hS (kdT rfl) rfl)) ?_; (first | refine xv (ex_fa (ev_at rfl) (flT rfl)) ?_ | refine xv (ex_faE (ev_at rfl) (flT rfl) (by assumption) (by assumption)) ?_); refine xv (ex_load (ev_at rfl) (ld1 hS (kdT rfl) rfl)) ?_; refine xv (ex_len (ev_at rfl) (slT rfl) (by first | assumption | exact IsSl.nil)) ?_; refine xv (ex_min2r (r := (m : Int)) (ev_at rfl) (ev_const _ _) hm1) ?_; refine xv (ex_sliceH (ev_at rfl) (ev_at rfl) (slT rfl) (szT rfl) (by first | assumption | exact IsSl.nil) (by omega) (by omega)) ?_; (first | refine xv (ex_fa (ev_at rfl) (flT rfl)) ?_ | refine xv (ex_faE (ev_at rfl) (flT rfl) (by assumption) (by assumption)) ?_); refine wl_of rfl (wp_store1 (ev_at rfl) (ev_at rfl) hS (szT rfl) rfl (IsSl.one hv2) fun w hS => wl_put0 ?_); refine wl_nil ?_; (try simp only [lset, splice, sub, List.take_succ_cons, List.take_zero, List.drop_succ_cons, List.drop_zero, List.nil_append, List.cons_append, List.length_cons, List.length_nil, Nat.reduceAdd, Nat.zero_add, rep_zero] at hS))
      | ((with_reducible apply wp_region_plain (id := 3)); (first | refine xv (ex_fa (ev_at rfl) (flT rfl)) ?_ | refine xv (ex_faE (ev_at rfl) (flT rfl) (by assumption) (by assumption)) ?_); refine xv (ex_load (ev_at rfl) (ldN hS (kdT rfl) (szT rfl) rfl)) ?_; refine wl_of rfl (wp_alloc hS (zeT rfl) fun b4 w hS => wl_put (by simp only [lset] <;> rfl) ?_); refine wl_of rfl (wp_storeN (ev_at rfl) (ev_at rfl) hS (szT rfl) rfl (by first | rfl | assumption | (simp only [sub, splice, List.take_succ_cons, List.take_zero, List.drop_succ_cons, List.drop_zero, List.nil_append, List.cons_append, List.length_cons, List.length_nil, Nat.reduceAdd, List.all_cons, List.all_nil, Bool.and_eq_true, Bool.and_true]; ((repeat' apply And.intro) <;> first | rfl | assumption | exact IsSl.one (by assumption)))) fun w hS => wl_put0 ?_); refine wl_nil ?_; (try simp only [lset, splice, sub, List.take_succ_cons, List.take_zero, List.drop_succ_cons, List.drop_zero, List.nil_append, List.cons_append, List.length_cons, List.length_nil, Nat.reduceAdd, Nat.zero_add, rep_zero] at hS))
      | ((with_reducible apply wp_region_plain (id := 4)); (first | refine xv (ex_fa (ev_at rfl) (flT rfl)) ?_ | refine xv (ex_faE (ev_at rfl) (flT rfl) (by assumption) (by assumption)) ?_); refine xv (ex_load (ev_at rfl) (ld1 hS (kdT rfl) rfl)) ?_; (first | refine xv (ex_fa (ev_at rfl) (flT rfl)) ?_ | refine xv (ex_faE (ev_at rfl) (flT rfl) (by assumption) (by assumption)) ?_); refine xv (ex_load (ev_at rfl) (ld1 hS (kdT rfl) rfl)) ?_; refine xv (ex_len (ev_at rfl) (slT rfl) (by first | assumption | exact IsSl.nil)) ?_; refine xv (ex_min2r (r := (m' : Int)) (ev_at rfl) (ev_const _ _) hm1') ?_; refine xv (ex_sliceH (ev_at rfl) (ev_at rfl) (slT rfl) (szT rfl) (by first | assumption | exact IsSl.nil) (by omega) (by omega)) ?_; (first | refine xv (ex_fa (ev_at rfl) (flT rfl)) ?_ | refine xv (ex_faE (ev_at rfl) (flT rfl) (by assumption) (by assumption)) ?_); refine wl_of rfl (wp_store1 (ev_at rfl) (ev_at rfl) hS (szT rfl) rfl (IsSl.one hv2') fun w hS => wl_put0 ?_); refine wl_nil ?_; (try simp only [lset, splice, sub, List.take_succ_cons, List.take_zero, List.drop_succ_cons, List.drop_zero, List.nil_append, List.cons_append, List.length_cons, List.length_nil, Nat.reduceAdd, Nat.zero_add, rep_zero] at hS))
      | ((with_reducible apply wp_region_plain (id := 5)); refine xv (ex_load (ev_at rfl) (ldN hS (kdT rfl) (szT rfl) rfl)) ?_; refine wl_of rfl (wp_callL (cbT rfl) (EvL.c (ev_at rfl) EvL.n) ?_); refine (hrk _ _ _ hv2 hS).mono ?_; rintro e w ⟨rfl, hS⟩; refine ⟨_, rfl, wl_put (by simp only [lset] <;> rfl) ?_⟩; refine xv (ex_cmp (ev_at rfl) (ev_const _ _) (by first | exact neqT (by omega) | exact neqF (by omega) | rfl)) ?_; refine xv (ex_move (ev_at rfl)) ?_; (first | refine wl_skip rfl rfl (by simp only [lset] <;> rfl) ?_ | (refine xv (ex_load (ev_at rfl) (ldN hS (kdT rfl) (szT rfl) rfl)) ?_)); (first | refine wl_skip rfl rfl (by simp only [lset] <;> rfl) ?_ | (refine wl_of rfl (wp_callL (cbT rfl) (EvL.c (ev_at rfl) EvL.n) ?_); refine (hrk' _ _ _ hv2' hS).mono ?_; rintro e w ⟨rfl, hS⟩; refine ⟨_, rfl, wl_put (by simp only [lset] <;> rfl) ?_⟩)); (first | refine wl_skip rfl rfl (by simp only [lset] <;> rfl) ?_ | (refine xv (ex_cmp (ev_at rfl) (ev_const _ _) (by first | exact neqT (by omega) | exact neqF (by omega) | rfl)) ?_)); (first | refine xv (ex_pickT (ev_at rfl) (ev_const _ _)) ?_ | refine xv (ex_pickF (ev_at rfl) (ev_at rfl)) ?_ | refine xv (ex_pickOr (ev_at rfl) (ev_const _ _) (ev_at rfl)) ?_); refine wl_nil ?_)
      | ((with_reducible apply wp_region_plain (id := 6)); (first | refine xv (ex_fa (ev_at rfl) (flT rfl)) ?_ | refine xv (ex_faE (ev_at rfl) (flT rfl) (by assumption) (by assumption)) ?_); refine xv (ex_load (ev_at rfl) (ld1 hS (kdT rfl) rfl)) ?_; refine wl_of rfl (wp_callL (cbT rfl) (EvL.c (ev_at rfl) EvL.n) ?_); refine (seal2_ct _ _ _ ai rfl ar.all al hS).mono ?_; rintro e w ⟨us, rfl, hus, hS⟩; refine ⟨_, rfl, wl_put (by simp only [lset] <;> rfl) ?_⟩; refine xv (ex_assign (ev_at rfl)) ?_; refine wl_nil ?_)
      | ((fail_if_success (with_reducible apply wp_region_plain)); (fail_if_success (with_reducible apply wp_region_GS)); go_step))
    refine end1 (by first | exact .inl rfl | exact .inr rfl) rfl (ResL.rt rfl ResL.rn) ?_
    exact ⟨us, sealB any, rfl, hsl, hus, hS.del1.del1.del1⟩
  rw [hc] at hrk
  by_cases hc' : RC.check O = 0
  case neg =>
    generalize RC.check O = c at hc' hrk'
    go_enter Try.func24, Try.ntmps24
    repeat' (first
      | ((with_reducible apply wp_region_plain (id := 0)); refine wl_of rfl (wp_boxN (ev_at rfl) hS fun b1 w hS => wl_put (by simp only [lset] <;> rfl) ?_); refine xv (ex_assign (ev_const _ _)) ?_; refine wl_nil ?_)
      | ((with_reducible apply wp_region_plain (id := 1)); (first | refine xv (ex_fa (ev_at rfl) (flT rfl)) ?_ | refine xv (ex_faE (ev_at rfl) (flT rfl) (by assumption) (by assumption)) ?_); refine xv (ex_load (ev_at rfl) (ldN hS (kdT rfl) (szT rfl) rfl)) ?_; refine wl_of rfl (wp_alloc hS (zeT rfl) fun b3 w hS => wl_put (by simp only [lset] <;> rfl) ?_); refine wl_of rfl (wp_storeN (ev_at rfl) (ev_at rfl) hS (szT rfl) rfl (by first | rfl | assumption | (simp only [sub, splice, List.take_succ_cons, List.take_zero, List.drop_succ_cons, List.drop_zero, List.nil_append, List.cons_append, List.length_cons, List.length_nil, Nat.reduceAdd, List.all_cons, List.all_nil, Bool.and_eq_true, Bool.and_true]; ((repeat' apply And.intro) <;> first | rfl | assumption | exact IsSl.one (by assumption)))) fun w hS => wl_put0 ?_); refine wl_nil ?_; (try simp only [lset, splice, sub, List.take_succ_cons, List.take_zero, List.drop_succ_cons, List.drop_zero, List.nil_append, List.cons_append, List.length_cons, List.length_nil, Nat.reduceAdd, Nat.zero_add, rep_zero] at hS))
      | ((with_reducible apply wp_region_plain (id := 2)); (first | refine xv (ex_fa (ev_at rfl) (flT rfl)) ?_ | refine xv (ex_faE (ev_at rfl) (flT rfl) (by assumption) (by assumption)) ?_); refine xv (ex_load (ev_at rfl) (ld1 hS (kdT rfl) rfl)) ?_; (first | refine xv (ex_fa (ev_at rfl) (flT rfl)) ?_ | refine xv (ex_faE (ev_at rfl) (flT rfl) (by assumption) (by assumption)) ?_); refine xv (ex_load (ev_at rfl) (ld1 hS (kdT rfl) rfl)) ?_; refine xv (ex_len (ev_at rfl) (slT rfl) (by first | assumption | exact IsSl.nil)) ?_; refine xv (ex_min2r (r := (m : Int)) (ev_at rfl) (ev_const _ _) hm1) ?_; refine xv (ex_sliceH (ev_at rfl) (ev_at rfl) (slT rfl) (szT rfl) (by first | assumption | exact IsSl.nil) (by omega) (by omega)) ?_; (first | refine xv (ex_fa (ev_at rfl) (flT rfl)) ?_ | refine xv (ex_faE (ev_at rfl) (flT rfl) (by assumption) (by assumption)) ?_); refine wl_of rfl (wp_store1 (ev_at rfl) (ev_at rfl) hS (szT rfl) rfl (IsSl.one hv2) fun w hS => wl_put0 ?_); refine wl_nil ?_; (try simp only [lset, splice, sub, List.take_succ_cons, List.take_zero, List.drop_succ_cons, List.drop_zero, List.nil_append, List.cons_append, List.length_cons, List.length_nil, Nat.reduceAdd, Nat.zero_add, rep_zero] at hS))
      | ((with_reducible apply wp_region_plain (id := 3)); (first | refine xv (ex_fa (ev_at rfl) (flT rfl)) ?_ | refine xv (ex_faE (ev_at rfl) (flT rfl) (by assumption) (by assumption)) ?_); refine xv (ex_load (ev_at rfl) (ldN hS (kdT rfl) (szT rfl) rfl)) ?_; refine wl_of rfl (wp_alloc hS (zeT rfl) fun b4 w hS => wl_put (by simp only [lset] <;> rfl) ?_); refine wl_of rfl (wp_storeN (ev_at rfl) (ev_at rfl) hS (szT rfl) rfl (by first | rfl | assumption | (simp only [sub, splice, List.take_succ_cons, List.take_zero, List.drop_succ_cons, List.drop_zero, List.nil_append, List.cons_append, List.length_cons, List.length_nil, Nat.reduceAdd, List.all_cons, List.all_nil, Bool.and_eq_true, Bool.and_true]; ((repeat' apply And.intro) <;> first | rfl | assumption | exact IsSl.one (by assumption)))) fun w hS => wl_put0 ?_); refine wl_nil ?_; (try simp only [lset, splice, sub, List.take_succ_cons, List.take_zero, List.drop_succ_cons, List.drop_zero, List.nil_append, List.cons_append, List.length_cons, List.length_nil, Nat.reduceAdd, Nat.zero_add, rep_zero] at hS))
      | ((with_reducible apply wp_region_plain (id := 4)); (first | refine xv (ex_fa (ev_at rfl) (flT rfl)) ?_ | refine xv (ex_faE (ev_at rfl) (flT rfl) (by assumption) (by assumption)) ?_); refine xv (ex_load (ev_at rfl) (ld1 hS (kdT rfl) rfl)) ?_; (first | refine xv (ex_fa (ev_at rfl) (flT rfl)) ?_ | refine xv (ex_faE (ev_at rfl) (flT rfl) (by assumption) (by assumption)) ?_); refine xv (ex_load (ev_at rfl) (ld1 hS (kdT rfl) rfl)) ?_; refine xv (ex_len (ev_at rfl) (slT rfl) (by first | assumption | exact IsSl.nil)) ?_; refine xv (ex_min2r (r := (m' : Int)) (ev_at rfl) (ev_const _ _) hm1') ?_; refine xv (ex_sliceH (ev_at rfl) (ev_at rfl) (slT rfl) (szT rfl) (by first | assumption | exact IsSl.nil) (by omega) (by omega)) ?_; (first | refine xv (ex_fa (ev_at rfl) (flT rfl)) ?_ | refine xv (ex_faE (ev_at rfl) (flT rfl) (by assumption) (by assumption)) ?_); refine wl_of rfl (wp_store1 (ev_at rfl) (ev_at rfl) hS (szT rfl) rfl (IsSl.one hv2') fun w hS => wl_put0 ?_); refine wl_nil ?_; (try simp only [lset, splice, sub, List.take_succ_cons, List.take_zero, List.drop_succ_cons, List.drop_zero, List.nil_append, List.cons_append, List.length_cons, List.length_nil, Nat.reduceAdd, Nat.zero_add, rep_zero] at hS))
      | ((with_reducible apply wp_region_plain (id := 5)); refine xv (ex_load (ev_at rfl) (ldN hS (kdT rfl) (szT rfl) rfl)) ?_; refine wl_of rfl (wp_callL (cbT rfl) (EvL.c (ev_at rfl) EvL.n) ?_); refine (hrk _ _ _ hv2 hS).mono ?_; rintro e w ⟨rfl, hS⟩; refine ⟨_, rfl, wl_put (by simp only [lset] <;> rfl) ?_⟩; refine xv (ex_cmp (ev_at rfl) (ev_const _ _) (by first | exact neqT (by omega) | exact neqF (by omega) | rfl)) ?_; refine xv (ex_move (ev_at rfl)) ?_; (first | refine wl_skip rfl rfl (by simp only [lset] <;> rfl) ?_ | (refine xv (ex_load (ev_at rfl) (ldN hS (kdT rfl) (szT rfl) rfl)) ?_)); (first | refine wl_skip rfl rfl (by simp only [lset] <;> rfl) ?_ | (refine wl_of rfl (wp_callL (cbT rfl) (EvL.c (ev_at rfl) EvL.n) ?_); refine (hrk' _ _ _ hv2' hS).mono ?_; rintro e w ⟨rfl, hS⟩; refine ⟨_, rfl, wl_put (by simp only [lset] <;> rfl) ?_⟩)); (first | refine wl_skip rfl rfl (by simp only [lset] <;> rfl) ?_ | (refine xv (ex_cmp (ev_at rfl) (ev_const _ _) (by first | exact neqT (by omega) | exact neqF (by omega) | rfl)) ?_)); (first | refine xv (ex_pickT (ev_at rfl) (ev_const _ _)) ?_ | refine xv (ex_pickF (ev_at rfl) (ev_at rfl)) ?_ | refine xv (ex_pickOr (ev_at rfl) (ev_const _ _) (ev_at rfl)) ?_); refine wl_nil ?_)
      | ((with_reducible apply wp_region_plain (id := 6)); (first | refine xv (ex_fa (ev_at rfl) (flT rfl)) ?_ | refine xv (ex_faE (ev_at rfl) (flT rfl) (by assumption) (by assumption)) ?_); refine xv (ex_load (ev_at rfl) (ld1 hS (kdT rfl) rfl)) ?_; refine wl_of rfl (wp_callL (cbT rfl) (EvL.c (ev_at rfl) EvL.n) ?_); refine (seal2_ct _ _ _ ai rfl ar.all al hS).mono ?_; rintro e w ⟨us, rfl, hus, hS⟩; refine ⟨_, rfl, wl_put (by simp only [lset] <;> rfl) ?_⟩; refine xv (ex_assign (ev_at rfl)) ?_; refine wl_nil ?_)
      | ((fail_if_success (with_reducible apply wp_region_plain)); (fail_if_success (with_reducible apply wp_region_GS)); go_step))
    refine end1 (by first | exact .inl rfl | exact .inr rfl) rfl (ResL.rt rfl ResL.rn) ?_
    exact ⟨us, sealB any, rfl, hsl, hus, hS.del1.del1.del1⟩
  rw [hc'] at hrk'
  have hre := fun (w : World) (L2 : List Ch) (u : Value) (hu : IsSl u m) (hr2 : Rds I L2 u (P.bytes.map byteV)) hS => rencode_ct (w := w) (I := I) (L := L2) P u hc (by rw [hm3]; exact hu) hr2 hS
  have hre' := fun (w : World) (L2 : List Ch) (u : Value) (hu : IsSl u m') (hr2 : Rds I L2 u (O.bytes.map byteV)) hS => rencode_ct (w := w) (I := I) (L := L2) O u hc' (by rw [hm3']; exact hu) hr2 hS
  unfold partV at hre hre'
  have hel := encode_len P
  have hfl := encode_len O
  generalize encode P = E at hre hel
  generalize encode O = F at hre' hfl
  have hat := at_.toNat_lt
  go_enter Try.func24, Try.ntmps24
  repeat' (first
    | ((with_reducible apply wp_region_plain (id := 0)); refine wl_of rfl (wp_boxN (ev_at rfl) hS fun b1 w hS => wl_put (by simp only [lset] <;> rfl) ?_); refine xv (ex_assign (ev_const _ _)) ?_; refine wl_nil ?_)
    | ((with_reducible apply wp_region_plain (id := 1)); (first | refine xv (ex_fa (ev_at rfl) (flT rfl)) ?_ | refine xv (ex_faE (ev_at rfl) (flT rfl) (by assumption) (by assumption)) ?_); refine xv (ex_load (ev_at rfl) (ldN hS (kdT rfl) (szT rfl) rfl)) ?_; refine wl_of rfl (wp_alloc hS (zeT rfl) fun b3 w hS => wl_put (by simp only [lset] <;> rfl) ?_); refine wl_of rfl (wp_storeN (ev_at rfl) (ev_at rfl) hS (szT rfl) rfl (by first | rfl | assumption | (simp only [sub, splice, List.take_succ_cons, List.take_zero, List.drop_succ_cons, List.drop_zero, List.nil_append, List.cons_append, List.length_cons, List.length_nil, Nat.reduceAdd, List.all_cons, List.all_nil, Bool.and_eq_true, Bool.and_true]; ((repeat' apply And.intro) <;> first | rfl | assumption | exact IsSl.one (by assumption)))) fun w hS => wl_put0 ?_); refine wl_nil ?_; (try simp only [lset, splice, sub, List.take_succ_cons, List.take_zero, List.drop_succ_cons, List.drop_zero, List.nil_append, List.cons_append, List.length_cons, List.length_nil, Nat.reduceAdd, Nat.zero_add, rep_zero] at hS))
    | ((with_reducible apply wp_region_plain (id := 2)); (first | refine xv (ex_fa (ev_at rfl) (flT rfl)) ?_ | refine xv (ex_faE (ev_at rfl) (flT rfl) (by assumption) (by assumption)) ?_); refine xv (ex_load (ev_at rfl) (ld1 hS (kdT rfl) rfl)) ?_; (first | refine xv (ex_fa (ev_at rfl) (flT rfl)) ?_ | refine xv (ex_faE (ev_at rfl) (flT rfl) (by assumption) (by assumption)) ?_); refine xv (ex_load (ev_at rfl) (ld1 hS (kdT rfl) rfl)) ?_; refine xv (ex_len (ev_at rfl) (slT rfl) (by first | assumption | exact IsSl.nil)) ?_; refine xv (ex_min2r (r := (m : Int)) (ev_at rfl) (ev_const _ _) hm1) ?_; refine xv (ex_sliceH (ev_at rfl) (ev_at rfl) (slT rfl) (szT rfl) (by first | assumption | exact IsSl.nil) (by omega) (by omega)) ?_; (first | refine xv (ex_fa (ev_at rfl) (flT rfl)) ?_ | refine xv (ex_faE (ev_at rfl) (flT rfl) (by assumption) (by assumption)) ?_); refine wl_of rfl (wp_store1 (ev_at rfl) (ev_at rfl) hS (szT rfl) rfl (IsSl.one hv2) fun w hS => wl_put0 ?_); refine wl_nil ?_; (try simp only [lset, splice, sub, List.take_succ_cons, List.take_zero, List.drop_succ_cons, List.drop_zero, List.nil_append, List.cons_append, List.length_cons, List.length_nil, Nat.reduceAdd, Nat.zero_add, rep_zero] at hS))
    | ((with_reducible apply wp_region_plain (id := 3)); (first | refine xv (ex_fa (ev_at rfl) (flT rfl)) ?_ | refine xv (ex_faE (ev_at rfl) (flT rfl) (by assumption) (by assumption)) ?_); refine xv (ex_load (ev_at rfl) (ldN hS (kdT rfl) (szT rfl) rfl)) ?_; refine wl_of rfl (wp_alloc hS (zeT rfl) fun b4 w hS => wl_put (by simp only [lset] <;> rfl) ?_); refine wl_of rfl (wp_storeN (ev_at rfl) (ev_at rfl) hS (szT rfl) rfl (by first | rfl | assumption | (simp only [sub, splice, List.take_succ_cons, List.take_zero, List.drop_succ_cons, List.drop_zero, List.nil_append, List.cons_append, List.length_cons, List.length_nil, Nat.reduceAdd, List.all_cons, List.all_nil, Bool.and_eq_true, Bool.and_true]; ((repeat' apply And.intro) <;> first | rfl | assumption | exact IsSl.one (by assumption)))) fun w hS => wl_put0 ?_); refine wl_nil ?_; (try simp only [lset, splice, sub, List.take_succ_cons, List.take_zero, List.drop_succ_cons, List.drop_zero, List.nil_append, List.cons_append, List.length_cons, List.length_nil, Nat.reduceAdd, Nat.zero_add, rep_zero] at hS))
    | ((with_reducible apply wp_region_plain (id := 4)); (first | refine xv (ex_fa (ev_at rfl) (flT rfl)) ?_ | refine xv (ex_faE (ev_at rfl) (flT rfl) (by assumption) (by assumption)) ?_); refine xv (ex_load (ev_at rfl) (ld1 hS (kdT rfl) rfl)) ?_; (first | refine xv (ex_fa (ev_at rfl) (flT rfl)) ?_ | refine xv (ex_faE (ev_at rfl) (flT rfl) (by assumption) (by assumption)) ?_); refine xv (ex_load (ev_at rfl) (ld1 hS (kdT rfl) rfl)) ?_; refine xv (ex_len (ev_at rfl) (slT rfl) (by first | assumption | exact IsSl.nil)) ?_; refine xv (ex_min2r (r := (m' : Int)) (ev_at rfl) (ev_const _ _) hm1') ?_; refine xv (ex_sliceH (ev_at rfl) (ev_at rfl) (slT rfl) (szT rfl) (by first | assumption | exact IsSl.nil) (by omega) (by omega)) ?_; (first | refine xv (ex_fa (ev_at rfl) (flT rfl)) ?_ | refine xv (ex_faE (ev_at rfl) (flT rfl) (by assumption) (by assumption)) ?_); refine wl_of rfl (wp_store1 (ev_at rfl) (ev_at rfl) hS (szT rfl) rfl (IsSl.one hv2') fun w hS => wl_put0 ?_); refine wl_nil ?_; (try simp only [lset, splice, sub, List.take_succ_cons, List.take_zero, List.drop_succ_cons, List.drop_zero, List.nil_append, List.cons_append, List.length_cons, List.length_nil, Nat.reduceAdd, Nat.zero_add, rep_zero] at hS))
    | ((with_reducible apply wp_region_plain (id := 5)); refine xv (ex_load (ev_at rfl) (ldN hS (kdT rfl) (szT rfl) rfl)) ?_; refine wl_of rfl (wp_callL (cbT rfl) (EvL.c (ev_at rfl) EvL.n) ?_); refine (hrk _ _ _ hv2 hS).mono ?_; rintro e w ⟨rfl, hS⟩; refine ⟨_, rfl, wl_put (by simp only [lset] <;> rfl) ?_⟩; refine xv (ex_cmp (ev_at rfl) (ev_const _ _) (by first | exact neqT (by omega) | exact neqF (by omega) | rfl)) ?_; refine xv (ex_move (ev_at rfl)) ?_; (first | refine wl_skip rfl rfl (by simp only [lset] <;> rfl) ?_ | (refine xv (ex_load (ev_at rfl) (ldN hS (kdT rfl) (szT rfl) rfl)) ?_)); (first | refine wl_skip rfl rfl (by simp only [lset] <;> rfl) ?_ | (refine wl_of rfl (wp_callL (cbT rfl) (EvL.c (ev_at rfl) EvL.n) ?_); refine (hrk' _ _ _ hv2' hS).mono ?_; rintro e w ⟨rfl, hS⟩; refine ⟨_, rfl, wl_put (by simp only [lset] <;> rfl) ?_⟩)); (first | refine wl_skip rfl rfl (by simp only [lset] <;> rfl) ?_ | (refine xv (ex_cmp (ev_at rfl) (ev_const _ _) (by first | exact neqT (by omega) | exact neqF (by omega) | rfl)) ?_)); (first | refine xv (ex_pickT (ev_at rfl) (ev_const _ _)) ?_ | refine xv (ex_pickF (ev_at rfl) (ev_at rfl)) ?_ | refine xv (ex_pickOr (ev_at rfl) (ev_const _ _) (ev_at rfl)) ?_); refine wl_nil ?_)
    | ((with_reducible apply wp_region_plain (id := 7)); refine xv (ex_load (ev_at rfl) (ldN hS (kdT rfl) (szT rfl) rfl)) ?_; refine wl_of rfl (wp_callL (cbT rfl) (EvL.c (ev_at rfl) EvL.n) ?_); refine (hre _ _ _ hv2 hr2.all hS).mono ?_; rintro e w ⟨u38, rfl, hu38, hS⟩; refine ⟨_, rfl, wl_put (by simp only [lset] <;> rfl) ?_⟩; refine xv (ex_assign (ev_at rfl)) ?_; refine wl_nil ?_)
    | ((with_reducible apply wp_region_plain (id := 8)); (first | refine xv (ex_fa (ev_at rfl) (flT rfl)) ?_ | refine xv (ex_faE (ev_at rfl) (flT rfl) (by assumption) (by assumption)) ?_); refine xv (ex_load (ev_at rfl) (ld1 hS (kdT rfl) rfl)) ?_; refine xv (ex_rem (ev_at rfl) (ev_const _ _) (by first | decide | omega) (by omega)) ?_; refine wl_nil ?_)
    | ((fail_if_success (with_reducible apply wp_region_plain)); (fail_if_success (with_reducible apply wp_region_GS)); go_step))
  have hk5 : kd.toNat % 5 = 0 ∨ kd.toNat % 5 = 1 ∨ kd.toNat % 5 = 2 ∨ kd.toNat % 5 = 3 ∨ kd.toNat % 5 = 4 := by omega
  rcases hk5 with hk | hk | hk | hk | hk
  · repeat' (first
      | ((with_reducible apply wp_region_plain (id := 9)); refine xv (ex_cmp (ev_at rfl) (ev_const _ _) (by first | exact eqlT (by omega) | exact eqlF (by omega) | rfl)) ?_; refine xv (ex_assign (ev_at rfl)) ?_; refine wl_nil ?_)
      | ((with_reducible apply wp_region_plain (id := 11)); refine xv (ex_cmp (ev_at rfl) (ev_const _ _) (by first | exact eqlT (by omega) | exact eqlF (by omega) | rfl)) ?_; refine xv (ex_assign (ev_at rfl)) ?_; refine wl_nil ?_)
      | ((with_reducible apply wp_region_plain (id := 13)); refine xv (ex_cmp (ev_at rfl) (ev_const _ _) (by first | exact eqlT (by omega) | exact eqlF (by omega) | rfl)) ?_; refine xv (ex_assign (ev_at rfl)) ?_; refine wl_nil ?_)
      | ((with_reducible apply wp_region_plain (id := 15)); refine xv (ex_cmp (ev_at rfl) (ev_const _ _) (by first | exact eqlT (by omega) | exact eqlF (by omega) | rfl)) ?_; refine xv (ex_assign (ev_at rfl)) ?_; refine wl_nil ?_)
      | ((with_reducible apply wp_region_plain (id := 17)); refine xv (ex_move (ev_at rfl)) ?_; refine xv (ex_assign (ev_at rfl)) ?_; refine wl_nil ?_)
      | ((fail_if_success (with_reducible apply wp_region_plain)); (fail_if_success (with_reducible apply wp_region_GS)); go_step))
    refine end1 (by first | exact .inl rfl | exact .inr rfl) rfl (ResL.rt rfl ResL.rn) ?_
    exact ⟨u38, E, rfl, hel, hu38, hS.del1.del1.del1⟩
  · obtain ⟨c, hcE⟩ : ∃ c, E[at_.toNat]? = some c := ⟨_, List.getElem?_eq_getElem (by omega)⟩
    repeat' (first
      | ((with_reducible apply wp_region_plain (id := 9)); refine xv (ex_cmp (ev_at rfl) (ev_const _ _) (by first | exact eqlT (by omega) | exact eqlF (by omega) | rfl)) ?_; refine xv (ex_assign (ev_at rfl)) ?_; refine wl_nil ?_)
      | ((with_reducible apply wp_region_GS (id := 10) 10 (fun j => [0, 1, 2, 3, 4, 5, 6, 7, 8].contains j) mixed); rfl; exact hS; (clear hS; intro w hS); refine xp 0 rfl rfl (fun w => ex_move (ev_at rfl)) ?_; (first | refine xp 1 rfl rfl (fun w => ex_fa (ev_at rfl) (flT rfl)) ?_ | refine xp 1 rfl rfl (fun w => ex_faE (ev_at rfl) (flT rfl) (by assumption) (by assumption)) ?_); refine xr 2 hS rfl rfl (fun w X hS => ex_load (ev_at rfl) (ld1 hS (kdT rfl) rfl)) ?_; (first | refine xp 3 rfl rfl (fun w => ex_iaN (ev_at rfl) (ev_at rfl) (slT rfl) (szT rfl) (by first | assumption | exact IsSl.nil) (by omega)) ?_ | refine xp 3 rfl rfl (fun w => ex_ia (ev_at rfl) (ev_at rfl) (slT rfl) (szT rfl) (by first | assumption | exact IsSl.nil) (by omega) (by omega)) ?_); refine xr 4 hS rfl rfl (fun w X hS => ex_load (ev_at rfl) (ldE1 (u := byteV c) ((hS.rowH (v := u38)).2.2.1) hu38 (m := at_.toNat) (by omega) (kdT rfl) (byteGet hcE (by omega)))) ?_; (first | refine xp 5 rfl rfl (fun w => ex_fa (ev_at rfl) (flT rfl)) ?_ | refine xp 5 rfl rfl (fun w => ex_faE (ev_at rfl) (flT rfl) (by assumption) (by assumption)) ?_); refine xr 6 hS rfl rfl (fun w X hS => ex_load (ev_at rfl) (ld1 hS (kdT rfl) rfl)) ?_; refine xp 7 rfl rfl (fun w => ex_xor8 (ev_at rfl) (ev_at rfl)) ?_; (first | refine xp 8 rfl rfl (fun w => ex_iaN (ev_at rfl) (ev_at rfl) (slT rfl) (szT rfl) (by first | assumption | exact IsSl.nil) (by omega)) ?_ | refine xp 8 rfl rfl (fun w => ex_ia (ev_at rfl) (ev_at rfl) (slT rfl) (szT rfl) (by first | assumption | exact IsSl.nil) (by omega) (by omega)) ?_); refine wg_loud 9 (by decide +kernel) rfl rfl (wp_storeE1 (v := u38) (u := byteV (c ^^^ by_)) (ev_at rfl) (ev_at rfl) hS (szT rfl) (by rw [List.length_map, hel]; omega) rfl fun w hS => ⟨gsF rfl, wg_n ?_⟩); refine wg_end (by decide +kernel) ?_; (try simp only [lset, splice, sub, List.take_succ_cons, List.take_zero, List.drop_succ_cons, List.drop_zero, List.nil_append, List.cons_append, List.length_cons, List.length_nil, Nat.reduceAdd, Nat.zero_add, rep_zero] at hS))
      | ((with_reducible apply wp_region_plain (id := 17)); refine xv (ex_move (ev_at rfl)) ?_; refine xv (ex_assign (ev_at rfl)) ?_; refine wl_nil ?_)
      | ((fail_if_success (with_reducible apply wp_region_plain)); (fail_if_success (with_reducible apply wp_region_GS)); go_step))
    refine end1 (by first | exact .inl rfl | exact .inr rfl) rfl (ResL.rt rfl ResL.rn) ?_
    rw [← List.map_set] at hS
    exact ⟨u38, _, rfl, by rw [List.length_set]; exact hel, hu38, hS.del1.del1.del1⟩
  · have hlo : 16 * (at_.toNat % 17) ≤ 256 := by omega
    repeat' (first
      | ((with_reducible apply wp_region_plain (id := 9)); refine xv (ex_cmp (ev_at rfl) (ev_const _ _) (by first | exact eqlT (by omega) | exact eqlF (by omega) | rfl)) ?_; refine xv (ex_assign (ev_at rfl)) ?_; refine wl_nil ?_)
      | ((with_reducible apply wp_region_plain (id := 11)); refine xv (ex_cmp (ev_at rfl) (ev_const _ _) (by first | exact eqlT (by omega) | exact eqlF (by omega) | rfl)) ?_; refine xv (ex_assign (ev_at rfl)) ?_; refine wl_nil ?_)
      | ((with_reducible apply wp_region_GS (id := 12) 16 (fun j => [0, 1, 2, 3, 4, 5, 6, 7, 8, 9, 10, 11, 12, 13, 14].contains j) mixed); rfl; exact hS; (clear hS; intro w hS); refine xp 0 rfl rfl (fun w => ex_move (ev_at rfl)) ?_; (first | refine xp 1 rfl rfl (fun w => ex_fa (ev_at rfl) (flT rfl)) ?_ | refine xp 1 rfl rfl (fun w => ex_faE (ev_at rfl) (flT rfl) (by assumption) (by assumption)) ?_); refine xr 2 hS rfl rfl (fun w X hS => ex_load (ev_at rfl) (ld1 hS (kdT rfl) rfl)) ?_; refine xp 3 rfl rfl (fun w => ex_convII (ev_at rfl) (inT rfl) (kdT rfl) (by first | exact IntWalk.i64_in _ (by omega) | rfl)) ?_; refine xp 4 rfl rfl (fun w => ex_rem (ev_at rfl) (ev_const _ _) (by first | decide | omega) (by omega)) ?_; refine xp 5 rfl rfl (fun w => ex_arith (s := ((16 * (at_.toNat % 17) : Nat) : Int)) (ev_const _ _) (ev_at rfl) rfl (by rw [IntWalk.i64_in _ (by omega)]; omega)) ?_; refine xp 6 rfl rfl (fun w => ex_sliceL (ev_at rfl) (ev_at rfl) (slT rfl) (szT rfl) (by first | assumption | exact IsSl.nil) (by omega) (by omega)) ?_; refine xr 7 hS rfl rfl (fun w X hS => ex_load (ev_at rfl) (ldN hS (kdT rfl) (szT rfl) rfl)) ?_; (first | refine xp 9 rfl rfl (fun w => ex_fa (ev_at rfl) (flT rfl)) ?_ | refine xp 9 rfl rfl (fun w => ex_faE (ev_at rfl) (flT rfl) (by assumption) (by assumption)) ?_); refine xr 10 hS rfl rfl (fun w X hS => ex_load (ev_at rfl) (ld1 hS (kdT rfl) rfl)) ?_; refine xp 11 rfl rfl (fun w => ex_convII (ev_at rfl) (inT rfl) (kdT rfl) (by first | exact IntWalk.i64_in _ (by omega) | rfl)) ?_; refine xp 12 rfl rfl (fun w => ex_rem (ev_at rfl) (ev_const _ _) (by first | decide | omega) (by omega)) ?_; refine xp 13 rfl rfl (fun w => ex_arith (s := ((16 * (at_.toNat % 17) : Nat) : Int)) (ev_const _ _) (ev_at rfl) rfl (by rw [IntWalk.i64_in _ (by omega)]; omega)) ?_; refine wg_loud 8 (by decide +kernel) rfl rfl (wp_callL (cbT rfl) (EvL.c (ev_at rfl) EvL.n) ?_); refine (hre' _ _ _ hv2' hr2'.all hS).mono ?_; rintro e w ⟨u63, rfl, hu63, hS⟩; refine ⟨_, rfl, ⟨gsT hS, wg_p (by simp only [lset] <;> rfl) ?_⟩⟩; refine xp 14 rfl rfl (fun w => ex_sliceL (ev_at rfl) (ev_at rfl) (slT rfl) (szT rfl) (by first | assumption | exact IsSl.nil) (by omega) (by omega)) ?_; refine wg_loud 15 (by decide +kernel) rfl rfl (wp_copyRow (v := u38) (l := 16 * (at_.toNat % 17)) (ev_at rfl) (ev_at rfl) (slT rfl) (szT rfl) hS hlo (by omega) (srcPart hS hu63 hfl hlo) rfl fun w hS => ⟨gsF rfl, wg_p (by simp only [lset] <;> rfl) ?_⟩); refine wg_end (by decide +kernel) ?_; (try simp only [lset, splice, sub, List.take_succ_cons, List.take_zero, List.drop_succ_cons, List.drop_zero, List.nil_append, List.cons_append, List.length_cons, List.length_nil, Nat.reduceAdd, Nat.zero_add, rep_zero] at hS))
      | ((with_reducible apply wp_region_plain (id := 17)); refine xv (ex_move (ev_at rfl)) ?_; refine xv (ex_assign (ev_at rfl)) ?_; refine wl_nil ?_)
      | ((fail_if_success (with_reducible apply wp_region_plain)); (fail_if_success (with_reducible apply wp_region_GS)); go_step))
    refine end1 (by first | exact .inl rfl | exact .inr rfl) rfl (ResL.rt rfl ResL.rn) ?_
    have e : (E.map byteV).take (16 * (at_.toNat % 17)) ++ (F.drop (16 * (at_.toNat % 17))).map byteV = (E.take (16 * (at_.toNat % 17)) ++ F.drop (16 * (at_.toNat % 17))).map byteV := by rw [List.map_append, List.map_take]
    have hS := hS.drop
    simp only [Int.toNat_natCast] at hS
    rw [e] at hS
    exact ⟨u38, _, rfl, by simp [hel, hfl]; omega, hu38, hS.del1.del1.del1⟩
  · repeat' (first
      | ((with_reducible apply wp_region_plain (id := 9)); refine xv (ex_cmp (ev_at rfl) (ev_const _ _) (by first | exact eqlT (by omega) | exact eqlF (by omega) | rfl)) ?_; refine xv (ex_assign (ev_at rfl)) ?_; refine wl_nil ?_)
      | ((with_reducible apply wp_region_plain (id := 11)); refine xv (ex_cmp (ev_at rfl) (ev_const _ _) (by first | exact eqlT (by omega) | exact eqlF (by omega) | rfl)) ?_; refine xv (ex_assign (ev_at rfl)) ?_; refine wl_nil ?_)
      | ((with_reducible apply wp_region_plain (id := 13)); refine xv (ex_cmp (ev_at rfl) (ev_const _ _) (by first | exact eqlT (by omega) | exact eqlF (by omega) | rfl)) ?_; refine xv (ex_assign (ev_at rfl)) ?_; refine wl_nil ?_)
      | ((with_reducible apply wp_region_plain (id := 14)); refine wl_of rfl (wp_makeSlice (n := 256) (ev_const _ _) (ev_const _ _) (slT rfl) (szT rfl) (byT rfl) (zeT rfl) hS rfl rfl (by omega) (by omega) rfl fun b73 w hS => wl_put (by simp only [lset] <;> rfl) ?_); refine xv (ex_assign (ev_at rfl)) ?_; refine wl_nil ?_; (try simp only [lset, splice, sub, List.take_succ_cons, List.take_zero, List.drop_succ_cons, List.drop_zero, List.nil_append, List.cons_append, List.length_cons, List.length_nil, Nat.reduceAdd, Nat.zero_add, rep_zero] at hS))
      | ((with_reducible apply wp_region_plain (id := 17)); refine xv (ex_move (ev_at rfl)) ?_; refine xv (ex_assign (ev_at rfl)) ?_; refine wl_nil ?_)
      | ((fail_if_success (with_reducible apply wp_region_plain)); (fail_if_success (with_reducible apply wp_region_GS)); go_step))
    refine end1 (by first | exact .inl rfl | exact .inr rfl) rfl (ResL.rt rfl ResL.rn) ?_
    rw [rep_byte] at hS
    exact ⟨_, List.replicate 256 0, rfl, by simp, IsSl.lit (Nat.le_refl _), hS.del1.del1.del1.del1⟩
  · repeat' (first
      | ((with_reducible apply wp_region_plain (id := 9)); refine xv (ex_cmp (ev_at rfl) (ev_const _ _) (by first | exact eqlT (by omega) | exact eqlF (by omega) | rfl)) ?_; refine xv (ex_assign (ev_at rfl)) ?_; refine wl_nil ?_)
      | ((with_reducible apply wp_region_plain (id := 11)); refine xv (ex_cmp (ev_at rfl) (ev_const _ _) (by first | exact eqlT (by omega) | exact eqlF (by omega) | rfl)) ?_; refine xv (ex_assign (ev_at rfl)) ?_; refine wl_nil ?_)
      | ((with_reducible apply wp_region_plain (id := 13)); refine xv (ex_cmp (ev_at rfl) (ev_const _ _) (by first | exact eqlT (by omega) | exact eqlF (by omega) | rfl)) ?_; refine xv (ex_assign (ev_at rfl)) ?_; refine wl_nil ?_)
      | ((with_reducible apply wp_region_plain (id := 15)); refine xv (ex_cmp (ev_at rfl) (ev_const _ _) (by first | exact eqlT (by omega) | exact eqlF (by omega) | rfl)) ?_; refine xv (ex_assign (ev_at rfl)) ?_; refine wl_nil ?_)
      | ((with_reducible apply wp_region_plain (id := 16)); (first | refine xv (ex_fa (ev_at rfl) (flT rfl)) ?_ | refine xv (ex_faE (ev_at rfl) (flT rfl) (by assumption) (by assumption)) ?_); refine xv (ex_load (ev_at rfl) (ld1 hS (kdT rfl) rfl)) ?_; refine wl_of rfl (wp_callL (cbT rfl) (EvL.c (ev_at rfl) EvL.n) ?_); refine (seal2_ct _ _ _ ai rfl ar.all al hS).mono ?_; rintro e w ⟨us, rfl, hus, hS⟩; refine ⟨_, rfl, wl_put (by simp only [lset] <;> rfl) ?_⟩; refine xv (ex_assign (ev_at rfl)) ?_; refine wl_nil ?_)
      | ((with_reducible apply wp_region_plain (id := 17)); refine xv (ex_move (ev_at rfl)) ?_; refine xv (ex_assign (ev_at rfl)) ?_; refine wl_nil ?_)
      | ((fail_if_success (with_reducible apply wp_region_plain)); (fail_if_success (with_reducible apply wp_region_GS)); go_step))
    refine end1 (by first | exact .inl rfl | exact .inr rfl) rfl (ResL.rt rfl ResL.rn) ?_
    exact ⟨us, sealB any, rfl, hsl, hus, hS.del1.del1.del1.del1⟩
theorem SecOk.mono {I J : Gh} {x : SecS} (h : SecOk I x) (hle : I.le J) : SecOk J x := ⟨h.pi, h.pr.mono hle, h.oi, h.or.mono hle, h.ai, h.ar.mono hle, h.al⟩
structure SecsOk (I : Gh) (v : Value) (xs : List SecS) : Prop where
  is : IsSl v xs.length
  ex : ∃ cs, Rds I [] v cs ∧ ∀ (i : Nat) (x : SecS), xs[i]? = some x → sub cs (i * 16) 16 = secCells x ∧ SecOk I x
set_option maxHeartbeats 8000000 in
theorem sectors_ct (v : Value) (xs : List SecS) (hx : SecsOk I v xs) (hS : Sat w I L) :
    Calls Try.prog 35 #[v] w fun e w' => ∃ J u vs ls, e = .returned u ∧ I.le J ∧ BytesL J vs ls ∧ ls.length ≤ 12 ∧ (∀ l ∈ ls, l.length = 256) ∧ IsSl u ls.length ∧ Sat w' J (Row u 22 1 ls.length vs :: L) := by
  obtain ⟨hvi, cs, hcs, hel⟩ := hx
  go_enter Try.func35, Try.ntmps35
  repeat' (first
    | ((with_reducible apply wp_region_plain (id := 0)); refine xv (ex_assign (ev_const _ _)) ?_; refine wl_nil ?_)
    | ((with_reducible apply wp_region_plain (id := 1)); refine xv (ex_assign (ev_const _ _)) ?_; refine wl_nil ?_)
    | ((with_reducible apply wp_region_plain (id := 2)); refine xv (ex_assign (ev_const _ _)) ?_; refine wl_nil ?_)
    | ((fail_if_success (with_reducible apply wp_region_plain)); (fail_if_success (with_reducible apply wp_region_GS)); go_step))
  have hS := hS.nilRow 22 1
  refine wp_loopM [false, false, false, true, true, true, true, true, true, true, true, true, true, true, true, true, true, true, true, true, true, true, true] (fun n f w => ∃ (i : Nat) (J : Gh) (u : Value) (vs : List Value) (ls : List (List UInt8)), n = 12 - i ∧ f 3 = u ∧ f 4 = .int .i64 i ∧ i ≤ 12 ∧ i ≤ xs.length ∧ ls.length = i ∧ I.le J ∧ BytesL J vs ls ∧ (∀ l ∈ ls, l.length = 256) ∧ Sat w J (Row u 22 1 i vs :: L)) rfl 12 ⟨0, I, .slice none 0 0, [], [], rfl, rfl, rfl, by omega, by omega, rfl, Gh.le.refl I, BytesL.nil I, by simp, hS⟩ ?_
  clear hS
  rintro n f w ⟨i, J, u, vs, ls, rfl, h3, h4, hi, hi2, hll, hJ, hvs, hl256, hS⟩
  simp only [havoc, Nat.reduceAdd, h3, h4]
  have hui := (hS.rowH (v := u)).1
  by_cases hlt : i < xs.length
  case neg =>
    repeat' (first
      | ((with_reducible apply wp_region_plain (id := 3)); refine xv (ex_move (ev_at rfl)) ?_; refine xv (ex_move (ev_at rfl)) ?_; refine xv (ex_len (ev_at rfl) (slT rfl) (by first | assumption | exact IsSl.nil)) ?_; refine xv (ex_cmp (ev_at rfl) (ev_at rfl) (by first | exact lssT (by omega) | exact lssF (by omega) | rfl)) ?_; refine xv (ex_move (ev_at rfl)) ?_; (first | refine wl_skip rfl rfl (by simp only [lset] <;> rfl) ?_ | (refine xv (ex_move (ev_at rfl)) ?_)); (first | refine wl_skip rfl rfl (by simp only [lset] <;> rfl) ?_ | (refine xv (ex_cmp (ev_at rfl) (ev_const _ _) (by first | exact lssT (by omega) | exact lssF (by omega) | rfl)) ?_)); (first | refine xv (ex_pickT (ev_at rfl) (ev_at rfl)) ?_ | refine xv (ex_pickF (ev_at rfl) (ev_const _ _)) ?_ | refine xv (ex_pickAnd (ev_at rfl) (ev_at rfl) (ev_const _ _)) ?_); refine wl_nil ?_)
      | ((with_reducible apply wp_region_plain (id := 6)); refine xv (ex_move (ev_at rfl)) ?_; refine xv (ex_assign (ev_at rfl)) ?_; refine wl_nil ?_)
      | ((fail_if_success (with_reducible apply wp_region_plain)); (fail_if_success (with_reducible apply wp_region_GS)); go_step))
    refine end1 (by first | exact .inl rfl | exact .inr rfl) rfl (ResL.rt rfl ResL.rn) ?_
    exact ⟨J, u, vs, ls, rfl, hJ, hvs, by omega, hl256, by rw [hll]; exact hui, by rw [hll]; exact hS⟩
  by_cases hlt2 : i < 12
  case neg =>
    repeat' (first
      | ((with_reducible apply wp_region_plain (id := 3)); refine xv (ex_move (ev_at rfl)) ?_; refine xv (ex_move (ev_at rfl)) ?_; refine xv (ex_len (ev_at rfl) (slT rfl) (by first | assumption | exact IsSl.nil)) ?_; refine xv (ex_cmp (ev_at rfl) (ev_at rfl) (by first | exact lssT (by omega) | exact lssF (by omega) | rfl)) ?_; refine xv (ex_move (ev_at rfl)) ?_; (first | refine wl_skip rfl rfl (by simp only [lset] <;> rfl) ?_ | (refine xv (ex_move (ev_at rfl)) ?_)); (first | refine wl_skip rfl rfl (by simp only [lset] <;> rfl) ?_ | (refine xv (ex_cmp (ev_at rfl) (ev_const _ _) (by first | exact lssT (by omega) | exact lssF (by omega) | rfl)) ?_)); (first | refine xv (ex_pickT (ev_at rfl) (ev_at rfl)) ?_ | refine xv (ex_pickF (ev_at rfl) (ev_const _ _)) ?_ | refine xv (ex_pickAnd (ev_at rfl) (ev_at rfl) (ev_const _ _)) ?_); refine wl_nil ?_)
      | ((with_reducible apply wp_region_plain (id := 6)); refine xv (ex_move (ev_at rfl)) ?_; refine xv (ex_assign (ev_at rfl)) ?_; refine wl_nil ?_)
      | ((fail_if_success (with_reducible apply wp_region_plain)); (fail_if_success (with_reducible apply wp_region_GS)); go_step))
    refine end1 (by first | exact .inl rfl | exact .inr rfl) rfl (ResL.rt rfl ResL.rn) ?_
    exact ⟨J, u, vs, ls, rfl, hJ, hvs, by omega, hl256, by rw [hll]; exact hui, by rw [hll]; exact hS⟩
  have hg : xs[i]? = some xs[i] := List.getElem?_eq_getElem hlt
  obtain ⟨hsub, hok⟩ := hel _ _ hg
  generalize xs[i] = x at hsub hok hg
  have hsc := fun (w : World) (L2 : List Ch) hS => sector_ct (w := w) (I := J) (L := L2) x (hok.mono hJ) hS
  have hcl : (secCells x).length = 16 := rfl
  generalize secCells x = sc at hsub hsc hcl
  repeat' (first
    | ((with_reducible apply wp_region_plain (id := 3)); refine xv (ex_move (ev_at rfl)) ?_; refine xv (ex_move (ev_at rfl)) ?_; refine xv (ex_len (ev_at rfl) (slT rfl) (by first | assumption | exact IsSl.nil)) ?_; refine xv (ex_cmp (ev_at rfl) (ev_at rfl) (by first | exact lssT (by omega) | exact lssF (by omega) | rfl)) ?_; refine xv (ex_move (ev_at rfl)) ?_; (first | refine wl_skip rfl rfl (by simp only [lset] <;> rfl) ?_ | (refine xv (ex_move (ev_at rfl)) ?_)); (first | refine wl_skip rfl rfl (by simp only [lset] <;> rfl) ?_ | (refine xv (ex_cmp (ev_at rfl) (ev_const _ _) (by first | exact lssT (by omega) | exact lssF (by omega) | rfl)) ?_)); (first | refine xv (ex_pickT (ev_at rfl) (ev_at rfl)) ?_ | refine xv (ex_pickF (ev_at rfl) (ev_const _ _)) ?_ | refine xv (ex_pickAnd (ev_at rfl) (ev_at rfl) (ev_const _ _)) ?_); refine wl_nil ?_)
    | ((with_reducible apply wp_region_plain (id := 5)); refine xv (ex_move (ev_at rfl)) ?_; refine xv (ex_move (ev_at rfl)) ?_; refine xv (ex_move (ev_at rfl)) ?_; (first | refine xv (ex_iaN (ev_at rfl) (ev_at rfl) (slT rfl) (szT rfl) (by first | assumption | exact IsSl.nil) (by omega)) ?_ | refine xv (ex_ia (ev_at rfl) (ev_at rfl) (slT rfl) (szT rfl) (by first | assumption | exact IsSl.nil) (by omega) (by omega)) ?_); refine xv (ex_load (ev_at rfl) (ldEN ((hcs.mono hJ).rd0 hS) hvi (m := i) hlt (kdT rfl) (szT rfl) hsub hcl)) ?_; refine wl_of rfl (wp_callL (cbT rfl) (EvL.c (ev_at rfl) EvL.n) ?_); refine (hsc _ _ hS).mono ?_; rintro e w ⟨u2, bs, rfl, hbl, hu2i, hS⟩; obtain ⟨J2, hJ2, hS, hu2⟩ := hS.freezeRow; refine ⟨_, rfl, wl_put (by simp only [lset] <;> rfl) ?_⟩; refine wl_of rfl (wp_buildSlice (slT rfl) (szT rfl) (zeT rfl) (fillsOne1 (ev_at rfl) (by first | rfl | exact IsSl.one (by assumption))) hS rfl (by first | rfl | assumption | (simp only [sub, splice, List.take_succ_cons, List.take_zero, List.drop_succ_cons, List.drop_zero, List.nil_append, List.cons_append, List.length_cons, List.length_nil, Nat.reduceAdd, List.all_cons, List.all_nil, Bool.and_eq_true, Bool.and_true]; ((repeat' apply And.intro) <;> first | rfl | assumption | exact IsSl.one (by assumption)))) fun b21 w hS => wl_put (by simp only [lset] <;> rfl) ?_); refine wl_of rfl (wp_append1 (ev_at rfl) (ev_at rfl) (slT rfl) (szT rfl) (byT rfl) (zeT rfl) hS (by omega) (by omega) rfl fun v22 w hS hv22 => wl_put (by simp only [lset] <;> rfl) ?_); refine xv (ex_assign (ev_at rfl)) ?_; refine wl_nil ?_; (try simp only [lset, splice, sub, List.take_succ_cons, List.take_zero, List.drop_succ_cons, List.drop_zero, List.nil_append, List.cons_append, List.length_cons, List.length_nil, Nat.reduceAdd, Nat.zero_add, rep_zero] at hS))
    | ((with_reducible apply wp_region_plain (id := 4)); refine xv (ex_move (ev_at rfl)) ?_; refine xv (ex_arith (ev_at rfl) (ev_const _ _) rfl (by first | exact IntWalk.i64_in _ (by omega) | rfl)) ?_; refine xv (ex_assign (ev_at rfl)) ?_; refine wl_nil ?_)
    | ((fail_if_success (with_reducible apply wp_region_plain)); (fail_if_success (with_reducible apply wp_region_GS)); go_step))
  refine loopEndM rfl (12 - (i + 1)) ⟨i + 1, J2, _, _, ls ++ [bs], rfl, rfl, rfl, by omega, by omega, by simp [hll], hJ.trans hJ2, (hvs.mono hJ2).snoc (by rw [hbl]; exact hu2), ?_, hS⟩ (by omega)
  intro l hl
  rcases List.mem_append.1 hl with h | h
  · exact hl256 l h
  · simp at h; subst h; exact hbl
theorem ex_max2r {a : Act} {dst : Option Tmp} {x y : Operand} {ty : TypeId} {pos : String} {af : Array Edge} {gd : Option (Nat × Bool)} {kk : IntKind} {mi ni r : Int} {at_ : Array TypeId} (hx : a.eval x = .int kk mi) (hy : a.eval y = .int kk ni) (hr : (if ni > mi then ni else mi) = r) : Ex Try.prog a ⟨dst, .call ⟨.builtin .max, #[x, y], at_⟩, ty, pos, af, gd⟩ w (.int kk r) := by
  subst hr
  exact ex_max2 hx hy
theorem BytesL.app {I : Gh} {vs us : List Value} {ls ms : List (List UInt8)} (h : BytesL I vs ls) (h2 : BytesL I us ms) : BytesL I (vs ++ us) (ls ++ ms) := by
  refine ⟨by simp [h.1, h2.1], fun i u l h3 h4 => ?_⟩
  rcases Nat.lt_or_ge i vs.length with hi | hi
  · rw [List.getElem?_append_left hi] at h3
    rw [List.getElem?_append_left (by rw [← h.1]; exact hi)] at h4
    exact h.2 i u l h3 h4
  · rw [List.getElem?_append_right hi] at h3
    rw [List.getElem?_append_right (by rw [← h.1]; exact hi), ← h.1] at h4
    exact h2.2 _ u l h3 h4
theorem BytesL.take {I : Gh} {vs : List Value} {ls : List (List UInt8)} (h : BytesL I vs ls) (c : Nat) : BytesL I (vs.take c) (ls.take c) := by
  refine ⟨by simp [h.1], fun i u l h1 h2 => ?_⟩
  rw [List.getElem?_take] at h1 h2
  split at h1
  · rename_i hc
    rw [if_pos hc] at h2
    exact h.2 _ u l h1 h2
  · cases h1
theorem SecI.take {I : Gh} {v : Value} {ls : List (List UInt8)} (h : SecI I v ls) {c : Nat} (hc : c ≤ ls.length) : SecI I (slv v 0 c 1) (ls.take c) := by
  obtain ⟨vs, h1, h2⟩ := h
  refine ⟨vs.take c, ?_, h2.take c⟩
  have := h1.slv (l := 0) (h := c) (sz := 1) (by omega) hc
  have e : sub vs (0 * 1) ((c - 0) * 1) = vs.take c := by simp [sub]
  rw [e, Nat.sub_zero] at this
  rwa [List.length_take, Nat.min_eq_left hc]
set_option maxHeartbeats 8000000 in
theorem rEqq_ct (r s : RecS) (v u : Value) (hv : IsSl v r.pay.length) (hu : IsSl u s.pay.length) (h1 : Rds I L v (r.pay.map byteV)) (h2 : Rds I L u (s.pay.map byteV)) (hS : Sat w I L) :
    Calls Try.prog 37 #[recV r v, recV s u] w fun e w' => e = .returned (.bool (decide (r.kind = s.kind ∧ r.gen = s.gen ∧ r.num = s.num ∧ r.pay = s.pay))) ∧ Sat w' I L := by
  obtain ⟨k1, g1, n1, p1⟩ := r
  obtain ⟨k2, g2, n2, p2⟩ := s
  simp only at hv hu h1 h2 ⊢
  by_cases hk : k1 = k2
  case neg =>
    go_enter Try.func37, Try.ntmps37
    repeat' (first
      | ((with_reducible apply wp_region_plain (id := 0)); refine wl_of rfl (wp_boxN (ev_at rfl) hS fun b2 w hS => wl_put (by simp only [lset] <;> rfl) ?_); refine wl_of rfl (wp_boxN (ev_at rfl) hS fun b3 w hS => wl_put (by simp only [lset] <;> rfl) ?_); refine xv (ex_assign (ev_const _ _)) ?_; refine wl_nil ?_)
      | ((with_reducible apply wp_region_plain (id := 1)); (first | refine xv (ex_fa (ev_at rfl) (flT rfl)) ?_ | refine xv (ex_faE (ev_at rfl) (flT rfl) (by assumption) (by assumption)) ?_); refine xv (ex_load (ev_at rfl) (ld1 hS (kdT rfl) rfl)) ?_; (first | refine xv (ex_fa (ev_at rfl) (flT rfl)) ?_ | refine xv (ex_faE (ev_at rfl) (flT rfl) (by assumption) (by assumption)) ?_); refine xv (ex_load (ev_at rfl) (ld1 hS (kdT rfl) rfl)) ?_; refine xv (ex_cmp (ev_at rfl) (ev_at rfl) (by first | exact eqlT (by omega) | exact eqlF (by omega) | rfl)) ?_; refine xv (ex_move (ev_at rfl)) ?_; (first | refine wl_skip rfl rfl (by simp only [lset] <;> rfl) ?_ | ((first | refine xv (ex_fa (ev_at rfl) (flT rfl)) ?_ | refine xv (ex_faE (ev_at rfl) (flT rfl) (by assumption) (by assumption)) ?_))); (first | refine wl_skip rfl rfl (by simp only [lset] <;> rfl) ?_ | (refine xv (ex_load (ev_at rfl) (ld1 hS (kdT rfl) rfl)) ?_)); (first | refine wl_skip rfl rfl (by simp only [lset] <;> rfl) ?_ | ((first | refine xv (ex_fa (ev_at rfl) (flT rfl)) ?_ | refine xv (ex_faE (ev_at rfl) (flT rfl) (by assumption) (by assumption)) ?_))); (first | refine wl_skip rfl rfl (by simp only [lset] <;> rfl) ?_ | (refine xv (ex_load (ev_at rfl) (ld1 hS (kdT rfl) rfl)) ?_)); (first | refine wl_skip rfl rfl (by simp only [lset] <;> rfl) ?_ | (refine xv (ex_cmp (ev_at rfl) (ev_at rfl) (by first | exact eqlT (by omega) | exact eqlF (by omega) | rfl)) ?_)); (first | refine xv (ex_pickT (ev_at rfl) (ev_at rfl)) ?_ | refine xv (ex_pickF (ev_at rfl) (ev_const _ _)) ?_ | refine xv (ex_pickAnd (ev_at rfl) (ev_at rfl) (ev_const _ _)) ?_); refine xv (ex_move (ev_at rfl)) ?_; (first | refine wl_skip rfl rfl (by simp only [lset] <;> rfl) ?_ | ((first | refine xv (ex_fa (ev_at rfl) (flT rfl)) ?_ | refine xv (ex_faE (ev_at rfl) (flT rfl) (by assumption) (by assumption)) ?_))); (first | refine wl_skip rfl rfl (by simp only [lset] <;> rfl) ?_ | (refine xv (ex_load (ev_at rfl) (ld1 hS (kdT rfl) rfl)) ?_)); (first | refine wl_skip rfl rfl (by simp only [lset] <;> rfl) ?_ | ((first | refine xv (ex_fa (ev_at rfl) (flT rfl)) ?_ | refine xv (ex_faE (ev_at rfl) (flT rfl) (by assumption) (by assumption)) ?_))); (first | refine wl_skip rfl rfl (by simp only [lset] <;> rfl) ?_ | (refine xv (ex_load (ev_at rfl) (ld1 hS (kdT rfl) rfl)) ?_)); (first | refine wl_skip rfl rfl (by simp only [lset] <;> rfl) ?_ | (refine xv (ex_cmp (ev_at rfl) (ev_at rfl) (by first | exact eqlT (by omega) | exact eqlF (by omega) | rfl)) ?_)); (first | refine xv (ex_pickT (ev_at rfl) (ev_at rfl)) ?_ | refine xv (ex_pickF (ev_at rfl) (ev_const _ _)) ?_ | refine xv (ex_pickAnd (ev_at rfl) (ev_at rfl) (ev_const _ _)) ?_); refine xv (ex_move (ev_at rfl)) ?_; (first | refine wl_skip rfl rfl (by simp only [lset] <;> rfl) ?_ | ((first | refine xv (ex_fa (ev_at rfl) (flT rfl)) ?_ | refine xv (ex_faE (ev_at rfl) (flT rfl) (by assumption) (by assumption)) ?_))); (first | refine wl_skip rfl rfl (by simp only [lset] <;> rfl) ?_ | (refine xv (ex_load (ev_at rfl) (ld1 hS (kdT rfl) rfl)) ?_)); (first | refine wl_skip rfl rfl (by simp only [lset] <;> rfl) ?_ | (refine xv (ex_bytesStr (ev_at rfl) (slT rfl) (inT rfl) (unT rfl) (by fail)) ?_)); (first | refine wl_skip rfl rfl (by simp only [lset] <;> rfl) ?_ | ((first | refine xv (ex_fa (ev_at rfl) (flT rfl)) ?_ | refine xv (ex_faE (ev_at rfl) (flT rfl) (by assumption) (by assumption)) ?_))); (first | refine wl_skip rfl rfl (by simp only [lset] <;> rfl) ?_ | (refine xv (ex_load (ev_at rfl) (ld1 hS (kdT rfl) rfl)) ?_)); (first | refine wl_skip rfl rfl (by simp only [lset] <;> rfl) ?_ | (refine xv (ex_bytesStr (ev_at rfl) (slT rfl) (inT rfl) (unT rfl) (by fail)) ?_)); (first | refine wl_skip rfl rfl (by simp only [lset] <;> rfl) ?_ | ((first | refine xv (ex_eqlStrL (ev_at rfl) (ev_at rfl)) ?_ | refine xv (ex_eqlStr (ev_at rfl) (ev_at rfl)) ?_))); (first | refine xv (ex_pickT (ev_at rfl) (ev_at rfl)) ?_ | refine xv (ex_pickF (ev_at rfl) (ev_const _ _)) ?_ | refine xv (ex_pickAnd (ev_at rfl) (ev_at rfl) (ev_const _ _)) ?_); refine xv (ex_assign (ev_at rfl)) ?_; refine wl_nil ?_)
      | ((fail_if_success (with_reducible apply wp_region_plain)); (fail_if_success (with_reducible apply wp_region_GS)); go_step))
    refine end1 (by first | exact .inl rfl | exact .inr rfl) rfl (ResL.rt rfl ResL.rn) ?_
    exact ⟨by rw [decide_eq_false (fun h => hk h.1)], hS.drop.drop⟩
  by_cases hg : g1 = g2
  case neg =>
    go_enter Try.func37, Try.ntmps37
    repeat' (first
      | ((with_reducible apply wp_region_plain (id := 0)); refine wl_of rfl (wp_boxN (ev_at rfl) hS fun b2 w hS => wl_put (by simp only [lset] <;> rfl) ?_); refine wl_of rfl (wp_boxN (ev_at rfl) hS fun b3 w hS => wl_put (by simp only [lset] <;> rfl) ?_); refine xv (ex_assign (ev_const _ _)) ?_; refine wl_nil ?_)
      | ((with_reducible apply wp_region_plain (id := 1)); (first | refine xv (ex_fa (ev_at rfl) (flT rfl)) ?_ | refine xv (ex_faE (ev_at rfl) (flT rfl) (by assumption) (by assumption)) ?_); refine xv (ex_load (ev_at rfl) (ld1 hS (kdT rfl) rfl)) ?_; (first | refine xv (ex_fa (ev_at rfl) (flT rfl)) ?_ | refine xv (ex_faE (ev_at rfl) (flT rfl) (by assumption) (by assumption)) ?_); refine xv (ex_load (ev_at rfl) (ld1 hS (kdT rfl) rfl)) ?_; refine xv (ex_cmp (ev_at rfl) (ev_at rfl) (by first | exact eqlT (by omega) | exact eqlF (by omega) | rfl)) ?_; refine xv (ex_move (ev_at rfl)) ?_; (first | refine wl_skip rfl rfl (by simp only [lset] <;> rfl) ?_ | ((first | refine xv (ex_fa (ev_at rfl) (flT rfl)) ?_ | refine xv (ex_faE (ev_at rfl) (flT rfl) (by assumption) (by assumption)) ?_))); (first | refine wl_skip rfl rfl (by simp only [lset] <;> rfl) ?_ | (refine xv (ex_load (ev_at rfl) (ld1 hS (kdT rfl) rfl)) ?_)); (first | refine wl_skip rfl rfl (by simp only [lset] <;> rfl) ?_ | ((first | refine xv (ex_fa (ev_at rfl) (flT rfl)) ?_ | refine xv (ex_faE (ev_at rfl) (flT rfl) (by assumption) (by assumption)) ?_))); (first | refine wl_skip rfl rfl (by simp only [lset] <;> rfl) ?_ | (refine xv (ex_load (ev_at rfl) (ld1 hS (kdT rfl) rfl)) ?_)); (first | refine wl_skip rfl rfl (by simp only [lset] <;> rfl) ?_ | (refine xv (ex_cmp (ev_at rfl) (ev_at rfl) (by first | exact eqlT (by omega) | exact eqlF (by omega) | rfl)) ?_)); (first | refine xv (ex_pickT (ev_at rfl) (ev_at rfl)) ?_ | refine xv (ex_pickF (ev_at rfl) (ev_const _ _)) ?_ | refine xv (ex_pickAnd (ev_at rfl) (ev_at rfl) (ev_const _ _)) ?_); refine xv (ex_move (ev_at rfl)) ?_; (first | refine wl_skip rfl rfl (by simp only [lset] <;> rfl) ?_ | ((first | refine xv (ex_fa (ev_at rfl) (flT rfl)) ?_ | refine xv (ex_faE (ev_at rfl) (flT rfl) (by assumption) (by assumption)) ?_))); (first | refine wl_skip rfl rfl (by simp only [lset] <;> rfl) ?_ | (refine xv (ex_load (ev_at rfl) (ld1 hS (kdT rfl) rfl)) ?_)); (first | refine wl_skip rfl rfl (by simp only [lset] <;> rfl) ?_ | ((first | refine xv (ex_fa (ev_at rfl) (flT rfl)) ?_ | refine xv (ex_faE (ev_at rfl) (flT rfl) (by assumption) (by assumption)) ?_))); (first | refine wl_skip rfl rfl (by simp only [lset] <;> rfl) ?_ | (refine xv (ex_load (ev_at rfl) (ld1 hS (kdT rfl) rfl)) ?_)); (first | refine wl_skip rfl rfl (by simp only [lset] <;> rfl) ?_ | (refine xv (ex_cmp (ev_at rfl) (ev_at rfl) (by first | exact eqlT (by omega) | exact eqlF (by omega) | rfl)) ?_)); (first | refine xv (ex_pickT (ev_at rfl) (ev_at rfl)) ?_ | refine xv (ex_pickF (ev_at rfl) (ev_const _ _)) ?_ | refine xv (ex_pickAnd (ev_at rfl) (ev_at rfl) (ev_const _ _)) ?_); refine xv (ex_move (ev_at rfl)) ?_; (first | refine wl_skip rfl rfl (by simp only [lset] <;> rfl) ?_ | ((first | refine xv (ex_fa (ev_at rfl) (flT rfl)) ?_ | refine xv (ex_faE (ev_at rfl) (flT rfl) (by assumption) (by assumption)) ?_))); (first | refine wl_skip rfl rfl (by simp only [lset] <;> rfl) ?_ | (refine xv (ex_load (ev_at rfl) (ld1 hS (kdT rfl) rfl)) ?_)); (first | refine wl_skip rfl rfl (by simp only [lset] <;> rfl) ?_ | (refine xv (ex_bytesStr (ev_at rfl) (slT rfl) (inT rfl) (unT rfl) (by fail)) ?_)); (first | refine wl_skip rfl rfl (by simp only [lset] <;> rfl) ?_ | ((first | refine xv (ex_fa (ev_at rfl) (flT rfl)) ?_ | refine xv (ex_faE (ev_at rfl) (flT rfl) (by assumption) (by assumption)) ?_))); (first | refine wl_skip rfl rfl (by simp only [lset] <;> rfl) ?_ | (refine xv (ex_load (ev_at rfl) (ld1 hS (kdT rfl) rfl)) ?_)); (first | refine wl_skip rfl rfl (by simp only [lset] <;> rfl) ?_ | (refine xv (ex_bytesStr (ev_at rfl) (slT rfl) (inT rfl) (unT rfl) (by fail)) ?_)); (first | refine wl_skip rfl rfl (by simp only [lset] <;> rfl) ?_ | ((first | refine xv (ex_eqlStrL (ev_at rfl) (ev_at rfl)) ?_ | refine xv (ex_eqlStr (ev_at rfl) (ev_at rfl)) ?_))); (first | refine xv (ex_pickT (ev_at rfl) (ev_at rfl)) ?_ | refine xv (ex_pickF (ev_at rfl) (ev_const _ _)) ?_ | refine xv (ex_pickAnd (ev_at rfl) (ev_at rfl) (ev_const _ _)) ?_); refine xv (ex_assign (ev_at rfl)) ?_; refine wl_nil ?_)
      | ((fail_if_success (with_reducible apply wp_region_plain)); (fail_if_success (with_reducible apply wp_region_GS)); go_step))
    refine end1 (by first | exact .inl rfl | exact .inr rfl) rfl (ResL.rt rfl ResL.rn) ?_
    exact ⟨by rw [decide_eq_false (fun h => hg h.2.1)], hS.drop.drop⟩
  by_cases hn : n1 = n2
  case neg =>
    go_enter Try.func37, Try.ntmps37
    repeat' (first
      | ((with_reducible apply wp_region_plain (id := 0)); refine wl_of rfl (wp_boxN (ev_at rfl) hS fun b2 w hS => wl_put (by simp only [lset] <;> rfl) ?_); refine wl_of rfl (wp_boxN (ev_at rfl) hS fun b3 w hS => wl_put (by simp only [lset] <;> rfl) ?_); refine xv (ex_assign (ev_const _ _)) ?_; refine wl_nil ?_)
      | ((with_reducible apply wp_region_plain (id := 1)); (first | refine xv (ex_fa (ev_at rfl) (flT rfl)) ?_ | refine xv (ex_faE (ev_at rfl) (flT rfl) (by assumption) (by assumption)) ?_); refine xv (ex_load (ev_at rfl) (ld1 hS (kdT rfl) rfl)) ?_; (first | refine xv (ex_fa (ev_at rfl) (flT rfl)) ?_ | refine xv (ex_faE (ev_at rfl) (flT rfl) (by assumption) (by assumption)) ?_); refine xv (ex_load (ev_at rfl) (ld1 hS (kdT rfl) rfl)) ?_; refine xv (ex_cmp (ev_at rfl) (ev_at rfl) (by first | exact eqlT (by omega) | exact eqlF (by omega) | rfl)) ?_; refine xv (ex_move (ev_at rfl)) ?_; (first | refine wl_skip rfl rfl (by simp only [lset] <;> rfl) ?_ | ((first | refine xv (ex_fa (ev_at rfl) (flT rfl)) ?_ | refine xv (ex_faE (ev_at rfl) (flT rfl) (by assumption) (by assumption)) ?_))); (first | refine wl_skip rfl rfl (by simp only [lset] <;> rfl) ?_ | (refine xv (ex_load (ev_at rfl) (ld1 hS (kdT rfl) rfl)) ?_)); (first | refine wl_skip rfl rfl (by simp only [lset] <;> rfl) ?_ | ((first | refine xv (ex_fa (ev_at rfl) (flT rfl)) ?_ | refine xv (ex_faE (ev_at rfl) (flT rfl) (by assumption) (by assumption)) ?_))); (first | refine wl_skip rfl rfl (by simp only [lset] <;> rfl) ?_ | (refine xv (ex_load (ev_at rfl) (ld1 hS (kdT rfl) rfl)) ?_)); (first | refine wl_skip rfl rfl (by simp only [lset] <;> rfl) ?_ | (refine xv (ex_cmp (ev_at rfl) (ev_at rfl) (by first | exact eqlT (by omega) | exact eqlF (by omega) | rfl)) ?_)); (first | refine xv (ex_pickT (ev_at rfl) (ev_at rfl)) ?_ | refine xv (ex_pickF (ev_at rfl) (ev_const _ _)) ?_ | refine xv (ex_pickAnd (ev_at rfl) (ev_at rfl) (ev_const _ _)) ?_); refine xv (ex_move (ev_at rfl)) ?_; (first | refine wl_skip rfl rfl (by simp only [lset] <;> rfl) ?_ | ((first | refine xv (ex_fa (ev_at rfl) (flT rfl)) ?_ | refine xv (ex_faE (ev_at rfl) (flT rfl) (by assumption) (by assumption)) ?_))); (first | refine wl_skip rfl rfl (by simp only [lset] <;> rfl) ?_ | (refine xv (ex_load (ev_at rfl) (ld1 hS (kdT rfl) rfl)) ?_)); (first | refine wl_skip rfl rfl (by simp only [lset] <;> rfl) ?_ | ((first | refine xv (ex_fa (ev_at rfl) (flT rfl)) ?_ | refine xv (ex_faE (ev_at rfl) (flT rfl) (by assumption) (by assumption)) ?_))); (first | refine wl_skip rfl rfl (by simp only [lset] <;> rfl) ?_ | (refine xv (ex_load (ev_at rfl) (ld1 hS (kdT rfl) rfl)) ?_)); (first | refine wl_skip rfl rfl (by simp only [lset] <;> rfl) ?_ | (refine xv (ex_cmp (ev_at rfl) (ev_at rfl) (by first | exact eqlT (by omega) | exact eqlF (by omega) | rfl)) ?_)); (first | refine xv (ex_pickT (ev_at rfl) (ev_at rfl)) ?_ | refine xv (ex_pickF (ev_at rfl) (ev_const _ _)) ?_ | refine xv (ex_pickAnd (ev_at rfl) (ev_at rfl) (ev_const _ _)) ?_); refine xv (ex_move (ev_at rfl)) ?_; (first | refine wl_skip rfl rfl (by simp only [lset] <;> rfl) ?_ | ((first | refine xv (ex_fa (ev_at rfl) (flT rfl)) ?_ | refine xv (ex_faE (ev_at rfl) (flT rfl) (by assumption) (by assumption)) ?_))); (first | refine wl_skip rfl rfl (by simp only [lset] <;> rfl) ?_ | (refine xv (ex_load (ev_at rfl) (ld1 hS (kdT rfl) rfl)) ?_)); (first | refine wl_skip rfl rfl (by simp only [lset] <;> rfl) ?_ | (refine xv (ex_bytesStr (ev_at rfl) (slT rfl) (inT rfl) (unT rfl) (by fail)) ?_)); (first | refine wl_skip rfl rfl (by simp only [lset] <;> rfl) ?_ | ((first | refine xv (ex_fa (ev_at rfl) (flT rfl)) ?_ | refine xv (ex_faE (ev_at rfl) (flT rfl) (by assumption) (by assumption)) ?_))); (first | refine wl_skip rfl rfl (by simp only [lset] <;> rfl) ?_ | (refine xv (ex_load (ev_at rfl) (ld1 hS (kdT rfl) rfl)) ?_)); (first | refine wl_skip rfl rfl (by simp only [lset] <;> rfl) ?_ | (refine xv (ex_bytesStr (ev_at rfl) (slT rfl) (inT rfl) (unT rfl) (by fail)) ?_)); (first | refine wl_skip rfl rfl (by simp only [lset] <;> rfl) ?_ | ((first | refine xv (ex_eqlStrL (ev_at rfl) (ev_at rfl)) ?_ | refine xv (ex_eqlStr (ev_at rfl) (ev_at rfl)) ?_))); (first | refine xv (ex_pickT (ev_at rfl) (ev_at rfl)) ?_ | refine xv (ex_pickF (ev_at rfl) (ev_const _ _)) ?_ | refine xv (ex_pickAnd (ev_at rfl) (ev_at rfl) (ev_const _ _)) ?_); refine xv (ex_assign (ev_at rfl)) ?_; refine wl_nil ?_)
      | ((fail_if_success (with_reducible apply wp_region_plain)); (fail_if_success (with_reducible apply wp_region_GS)); go_step))
    refine end1 (by first | exact .inl rfl | exact .inr rfl) rfl (ResL.rt rfl ResL.rn) ?_
    exact ⟨by rw [decide_eq_false (fun h => hn h.2.2.1)], hS.drop.drop⟩
  go_enter Try.func37, Try.ntmps37
  repeat' (first
    | ((with_reducible apply wp_region_plain (id := 0)); refine wl_of rfl (wp_boxN (ev_at rfl) hS fun b2 w hS => wl_put (by simp only [lset] <;> rfl) ?_); refine wl_of rfl (wp_boxN (ev_at rfl) hS fun b3 w hS => wl_put (by simp only [lset] <;> rfl) ?_); refine xv (ex_assign (ev_const _ _)) ?_; refine wl_nil ?_)
    | ((with_reducible apply wp_region_plain (id := 1)); (first | refine xv (ex_fa (ev_at rfl) (flT rfl)) ?_ | refine xv (ex_faE (ev_at rfl) (flT rfl) (by assumption) (by assumption)) ?_); refine xv (ex_load (ev_at rfl) (ld1 hS (kdT rfl) rfl)) ?_; (first | refine xv (ex_fa (ev_at rfl) (flT rfl)) ?_ | refine xv (ex_faE (ev_at rfl) (flT rfl) (by assumption) (by assumption)) ?_); refine xv (ex_load (ev_at rfl) (ld1 hS (kdT rfl) rfl)) ?_; refine xv (ex_cmp (ev_at rfl) (ev_at rfl) (by first | exact eqlT (by omega) | exact eqlF (by omega) | rfl)) ?_; refine xv (ex_move (ev_at rfl)) ?_; (first | refine wl_skip rfl rfl (by simp only [lset] <;> rfl) ?_ | ((first | refine xv (ex_fa (ev_at rfl) (flT rfl)) ?_ | refine xv (ex_faE (ev_at rfl) (flT rfl) (by assumption) (by assumption)) ?_))); (first | refine wl_skip rfl rfl (by simp only [lset] <;> rfl) ?_ | (refine xv (ex_load (ev_at rfl) (ld1 hS (kdT rfl) rfl)) ?_)); (first | refine wl_skip rfl rfl (by simp only [lset] <;> rfl) ?_ | ((first | refine xv (ex_fa (ev_at rfl) (flT rfl)) ?_ | refine xv (ex_faE (ev_at rfl) (flT rfl) (by assumption) (by assumption)) ?_))); (first | refine wl_skip rfl rfl (by simp only [lset] <;> rfl) ?_ | (refine xv (ex_load (ev_at rfl) (ld1 hS (kdT rfl) rfl)) ?_)); (first | refine wl_skip rfl rfl (by simp only [lset] <;> rfl) ?_ | (refine xv (ex_cmp (ev_at rfl) (ev_at rfl) (by first | exact eqlT (by omega) | exact eqlF (by omega) | rfl)) ?_)); (first | refine xv (ex_pickT (ev_at rfl) (ev_at rfl)) ?_ | refine xv (ex_pickF (ev_at rfl) (ev_const _ _)) ?_ | refine xv (ex_pickAnd (ev_at rfl) (ev_at rfl) (ev_const _ _)) ?_); refine xv (ex_move (ev_at rfl)) ?_; (first | refine wl_skip rfl rfl (by simp only [lset] <;> rfl) ?_ | ((first | refine xv (ex_fa (ev_at rfl) (flT rfl)) ?_ | refine xv (ex_faE (ev_at rfl) (flT rfl) (by assumption) (by assumption)) ?_))); (first | refine wl_skip rfl rfl (by simp only [lset] <;> rfl) ?_ | (refine xv (ex_load (ev_at rfl) (ld1 hS (kdT rfl) rfl)) ?_)); (first | refine wl_skip rfl rfl (by simp only [lset] <;> rfl) ?_ | ((first | refine xv (ex_fa (ev_at rfl) (flT rfl)) ?_ | refine xv (ex_faE (ev_at rfl) (flT rfl) (by assumption) (by assumption)) ?_))); (first | refine wl_skip rfl rfl (by simp only [lset] <;> rfl) ?_ | (refine xv (ex_load (ev_at rfl) (ld1 hS (kdT rfl) rfl)) ?_)); (first | refine wl_skip rfl rfl (by simp only [lset] <;> rfl) ?_ | (refine xv (ex_cmp (ev_at rfl) (ev_at rfl) (by first | exact eqlT (by omega) | exact eqlF (by omega) | rfl)) ?_)); (first | refine xv (ex_pickT (ev_at rfl) (ev_at rfl)) ?_ | refine xv (ex_pickF (ev_at rfl) (ev_const _ _)) ?_ | refine xv (ex_pickAnd (ev_at rfl) (ev_at rfl) (ev_const _ _)) ?_); refine xv (ex_move (ev_at rfl)) ?_; (first | refine wl_skip rfl rfl (by simp only [lset] <;> rfl) ?_ | ((first | refine xv (ex_fa (ev_at rfl) (flT rfl)) ?_ | refine xv (ex_faE (ev_at rfl) (flT rfl) (by assumption) (by assumption)) ?_))); (first | refine wl_skip rfl rfl (by simp only [lset] <;> rfl) ?_ | (refine xv (ex_load (ev_at rfl) (ld1 hS (kdT rfl) rfl)) ?_)); (first | refine wl_skip rfl rfl (by simp only [lset] <;> rfl) ?_ | (refine xv (ex_bytesStr (bs := p1) (ev_at rfl) (slT rfl) (inT rfl) (unT rfl) (h1.rd hS) hv) ?_)); (first | refine wl_skip rfl rfl (by simp only [lset] <;> rfl) ?_ | ((first | refine xv (ex_fa (ev_at rfl) (flT rfl)) ?_ | refine xv (ex_faE (ev_at rfl) (flT rfl) (by assumption) (by assumption)) ?_))); (first | refine wl_skip rfl rfl (by simp only [lset] <;> rfl) ?_ | (refine xv (ex_load (ev_at rfl) (ld1 hS (kdT rfl) rfl)) ?_)); (first | refine wl_skip rfl rfl (by simp only [lset] <;> rfl) ?_ | (refine xv (ex_bytesStr (bs := p2) (ev_at rfl) (slT rfl) (inT rfl) (unT rfl) (h2.rd hS) hu) ?_)); (first | refine wl_skip rfl rfl (by simp only [lset] <;> rfl) ?_ | ((first | refine xv (ex_eqlStrL (ev_at rfl) (ev_at rfl)) ?_ | refine xv (ex_eqlStr (ev_at rfl) (ev_at rfl)) ?_))); (first | refine xv (ex_pickT (ev_at rfl) (ev_at rfl)) ?_ | refine xv (ex_pickF (ev_at rfl) (ev_const _ _)) ?_ | refine xv (ex_pickAnd (ev_at rfl) (ev_at rfl) (ev_const _ _)) ?_); refine xv (ex_assign (ev_at rfl)) ?_; refine wl_nil ?_)
    | ((fail_if_success (with_reducible apply wp_region_plain)); (fail_if_success (with_reducible apply wp_region_GS)); go_step))
  refine end1 (by first | exact .inl rfl | exact .inr rfl) rfl (ResL.rt rfl ResL.rn) ?_
  refine ⟨?_, hS.drop.drop⟩
  congr 2
  by_cases hp : p1 = p2
  · rw [decide_eq_true ⟨hk, hg, hn, hp⟩]; simp [hp]
  · rw [decide_eq_false (fun h => hp h.2.2.2)]; simp [hp]
end
end Go.Proofs.Try
