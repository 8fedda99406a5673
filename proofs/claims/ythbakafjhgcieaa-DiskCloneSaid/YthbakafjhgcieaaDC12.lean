/- The device: contracts (12): Equal. -/
import Derived.Test.YthbakafjhgcieaaDC11
import Derived.Test.YthbakafjhgcieaaSLMapIt
namespace Go.Proofs.Try
open Go.RowKit Go.SL Go.DK
set_option maxRecDepth 100000
set_option linter.unusedSimpArgs false
set_option linter.unusedVariables false
section
variable {w : World} {I : Gh} {L : List Ch}
/-- Two maps of sectors that agree. -/
def kvEq (a b : List (Int × List UInt8)) : Prop := a.length = b.length ∧ ∀ p ∈ a, kvGet b p.1 = some p.2
theorem kvGet_dkv (b : List (Int × List UInt8)) (k : Int) : kvGet (dkv b) k = (kvGet b k).map secV := by rw [dkv, kvGet_map]
theorem ex_lookS {a : Act} {dst : Option Tmp} {x y : Operand} {ty : TypeId} {pos : String} {af : Array Edge} {gd : Option (Nat × Bool)} {m : Nat} {k : Int} {b : List (Int × List UInt8)} {bs : List UInt8} {rep : Ch → List Ch} (hg : kvGet b k = some bs) (hx : a.eval x = .map (some m)) (hy : a.eval y = .int .i64 k) (hS : Sat w I L) [hi : HasMap L m (dkv b) rep] :
    Ex Try.prog a ⟨dst, .lookup 68 x y true, ty, pos, af, gd⟩ w (.tuple ([secV bs, .bool true] : List Value).toArray) := by
  have h := ex_lookupOk (P := Try.prog) (dst := dst) (ty := ty) (pos := pos) (af := af) (gd := gd) (t := 68) hx hy (unT rfl) (unT rfl) hS (zeroOf (zv := secV zSec) (by kernel_rfl))
  rw [kvGet_dkv, hg] at h
  exact h
theorem ex_lookN {a : Act} {dst : Option Tmp} {x y : Operand} {ty : TypeId} {pos : String} {af : Array Edge} {gd : Option (Nat × Bool)} {m : Nat} {k : Int} {b : List (Int × List UInt8)} {rep : Ch → List Ch} (hg : kvGet b k = none) (hx : a.eval x = .map (some m)) (hy : a.eval y = .int .i64 k) (hS : Sat w I L) [hi : HasMap L m (dkv b) rep] :
    Ex Try.prog a ⟨dst, .lookup 68 x y true, ty, pos, af, gd⟩ w (.tuple ([secV zSec, .bool false] : List Value).toArray) := by
  have h := ex_lookupOk (P := Try.prog) (dst := dst) (ty := ty) (pos := pos) (af := af) (gd := gd) (t := 68) hx hy (unT rfl) (unT rfl) hS (zeroOf (zv := secV zSec) (by kernel_rfl))
  rw [kvGet_dkv, hg] at h
  exact h
theorem byteV_inj {a b : UInt8} (h : byteV a = byteV b) : a = b := by
  simp only [byteV, Value.int.injEq, true_and] at h
  exact UInt8.toNat_inj.1 (by omega)
theorem mapV_inj : ∀ {l r : List UInt8}, l.map byteV = r.map byteV → l = r
  | [], [], _ => rfl
  | [], _ :: _, h => by simp at h
  | _ :: _, [], h => by simp at h
  | a :: l, b :: r, h => by
    simp only [List.map_cons, List.cons.injEq] at h
    rw [byteV_inj h.1, mapV_inj h.2]
theorem secV_inj {l r : List UInt8} (h : secV l = secV r) : l = r := by
  simp only [secV, Value.agg.injEq, List.toArray_inj] at h
  exact mapV_inj (by simpa using congrArg Array.toList h)
set_option maxHeartbeats 4000000 in
theorem mequal_ct (m1 m2 : Nat) (a b : List (Int × List UInt8)) (ha : DurOk a) (hb : DurOk b) (hl : a.length ≤ 1000000 ∧ b.length ≤ 1000000) (hS : Sat w I (MapI m1 (dkv a) :: MapI m2 (dkv b) :: L)) :
    Calls Try.prog 47 #[.map (some m1), .map (some m2)] w fun e w' => ∃ r : Bool, e = .returned (.bool r) ∧ (r = true ↔ kvEq a b) ∧ Sat w' I (MapI m1 (dkv a) :: MapI m2 (dkv b) :: L) := by
  have la : (dkv a).length = a.length := by simp [dkv]
  have lb : (dkv b).length = b.length := by simp [dkv]
  by_cases hlen : a.length = b.length
  case neg =>
    go_enter Try.func47, Try.ntmps47
    repeat' (first
      | ((with_reducible apply wp_region_plain (id := 0)); refine xv (ex_assign (ev_const _ _)) ?_; refine wl_nil ?_)
      | ((with_reducible apply wp_region_plain (id := 1)); refine xv (ex_move (ev_at rfl)) ?_; refine xv (ex_lenMap (ev_at rfl) (unT rfl) hS) ?_; refine xv (ex_move (ev_at rfl)) ?_; refine xv (ex_lenMap (ev_at rfl) (unT rfl) hS) ?_; refine xv (ex_cmp (ev_at rfl) (ev_at rfl) (by first | exact neqT (by omega) | exact neqF (by omega) | rfl)) ?_; refine wl_nil ?_)
      | ((with_reducible apply wp_region_plain (id := 2)); refine xv (ex_assign (ev_const _ _)) ?_; refine wl_nil ?_)
      | ((fail_if_success (with_reducible apply wp_region_plain)); (fail_if_success (with_reducible apply wp_region_GS)); go_step))
    refine end1 (by first | exact .inl rfl | exact .inr rfl) rfl (ResL.rt rfl ResL.rn) ?_
    exact ⟨false, rfl, by simp [kvEq, hlen], hS⟩
  go_enter Try.func47, Try.ntmps47
  repeat' (first
    | ((with_reducible apply wp_region_plain (id := 0)); refine xv (ex_assign (ev_const _ _)) ?_; refine wl_nil ?_)
    | ((with_reducible apply wp_region_plain (id := 1)); refine xv (ex_move (ev_at rfl)) ?_; refine xv (ex_lenMap (ev_at rfl) (unT rfl) hS) ?_; refine xv (ex_move (ev_at rfl)) ?_; refine xv (ex_lenMap (ev_at rfl) (unT rfl) hS) ?_; refine xv (ex_cmp (ev_at rfl) (ev_at rfl) (by first | exact neqT (by omega) | exact neqF (by omega) | rfl)) ?_; refine wl_nil ?_)
    | ((with_reducible apply wp_region_plain (id := 3)); refine xv (ex_move (ev_at rfl)) ?_; refine wl_of rfl (wp_rangeMap (ev_at rfl) (unT rfl) hS fun r w hS => wl_put (by simp only [lset] <;> rfl) ?_); refine wl_nil ?_; (try simp only [lset, splice, sub, List.take_succ_cons, List.take_zero, List.drop_succ_cons, List.drop_zero, List.nil_append, List.cons_append, List.length_cons, List.length_nil, Nat.reduceAdd, Nat.zero_add, rep_zero] at hS))
    | ((fail_if_success (with_reducible apply wp_region_plain)); (fail_if_success (with_reducible apply wp_region_GS)); go_step))
  refine wp_loopM [false, false, false, false, true, true, true, true, true, false, false, false, false, false, false, false, true, true, true, true, true, true, true, true, true, true, true, true, true, true, true, true, true, true] (fun n f w => ∃ todo cur, n = todo.length ∧ Sat w I (MapIt m1 r (dkv a) todo cur :: MapI m2 (dkv b) :: L) ∧ (∀ p ∈ a, (p.1, secV p.2) ∈ todo ∨ kvGet b p.1 = some p.2) ∧ (∀ q ∈ todo, ∃ bs, q.2 = secV bs ∧ (q.1, bs) ∈ a)) rfl (dkv a).length ⟨_, _, rfl, hS, fun p hp => .inl (List.mem_map.2 ⟨p, hp, rfl⟩), fun q hq => ?_⟩ ?_
  · obtain ⟨p, hp, rfl⟩ := List.mem_map.1 hq
    exact ⟨p.2, rfl, hp⟩
  clear hS
  rintro n f w ⟨todo, cur, rfl, hS, hdone, hfrom⟩
  simp only [havoc, Nat.reduceAdd]
  repeat' (first
    | ((fail_if_success (with_reducible apply wp_region_plain)); (fail_if_success (with_reducible apply wp_region_GS)); go_step))
  (with_reducible apply wp_region_plain (id := 4))
  refine wl_of rfl (wp_nextMap (ev_at rfl) hS (fun hz => wl_put (by simp only [lset] <;> rfl) ?_) (fun pre c post w hz hS => wl_put (by simp only [lset] <;> rfl) ?_))
  · refine xv (ex_extract (vs := [.bool false]) (ev_at rfl) rfl) ?_
    refine wl_nil ?_
    repeat' (first
      | ((with_reducible apply wp_region_plain (id := 9)); refine xv (ex_assign (ev_const _ _)) ?_; refine wl_nil ?_)
      | ((fail_if_success (with_reducible apply wp_region_plain)); (fail_if_success (with_reducible apply wp_region_GS)); go_step))
    refine end1 (by first | exact .inl rfl | exact .inr rfl) rfl (ResL.rt rfl ResL.rn) ?_
    refine ⟨true, rfl, ?_, hS.mapItEnd⟩
    subst hz
    simp only [true_iff]
    refine ⟨hlen, fun p hp => ?_⟩
    rcases hdone p hp with h | h
    · cases h
    · exact h
  · obtain ⟨bs, hc2, hca⟩ := hfrom c (by rw [hz]; simp)
    obtain ⟨ck, cv⟩ := c
    simp only at hc2 hca
    subst hc2
    have hbl : bs.length = 256 := ha.len _ hca
    refine xv (ex_extract (vs := [.bool true, .int .i64 ck, secV bs]) (ev_at rfl) rfl) ?_
    refine wl_nil ?_
    cases hg : kvGet b ck with
    | none =>
      repeat' (first
        | ((with_reducible apply wp_region_plain (id := 5)); refine xv (ex_entryMap (ev_at rfl) hS) ?_; refine xv (ex_extract (vs := [.int .i64 ck, secV bs]) (ev_at rfl) rfl) ?_; refine xv (ex_extract (vs := [.int .i64 ck, secV bs]) (ev_at rfl) rfl) ?_; refine wl_of rfl (wp_alloc hS (zeT rfl) fun b6 w hS => wl_put (by simp only [lset] <;> rfl) ?_); refine xv (ex_assign (ev_at rfl)) ?_; (first | refine wl_of rfl (wp_storeN (ev_at rfl) (ev_at rfl) hS (szT rfl) rfl (by first | rfl | assumption | (simp only [sub, splice, List.take_succ_cons, List.take_zero, List.drop_succ_cons, List.drop_zero, List.nil_append, List.cons_append, List.length_cons, List.length_nil, Nat.reduceAdd, List.all_cons, List.all_nil, Bool.and_eq_true, Bool.and_true]; ((repeat' apply And.intro) <;> first | rfl | assumption | exact IsSl.one (by assumption)))) fun w hS => wl_put0 ?_) | refine wl_of rfl (wp_storeW (vs := bs.map byteV) (ev_at rfl) (ev_at rfl) hS (szT rfl) (by simp [hbl]) (by simp) (byteV_Oc _) fun w hS => wl_put0 ?_) | refine wl_of rfl (wp_storeW (vs := zSec.map byteV) (ev_at rfl) (ev_at rfl) hS (szT rfl) (by simp) (by simp) (byteV_Oc _) fun w hS => wl_put0 ?_)); refine wl_nil ?_; (try simp only [lset, splice, sub, List.take_succ_cons, List.take_zero, List.drop_succ_cons, List.drop_zero, List.nil_append, List.cons_append, List.length_cons, List.length_nil, Nat.reduceAdd, Nat.zero_add, rep_zero] at hS))
        | ((with_reducible apply wp_region_plain (id := 6)); refine xv (ex_move (ev_at rfl)) ?_; refine xv (ex_move (ev_at rfl)) ?_; refine xv (ex_lookN hg (ev_at rfl) (ev_at rfl) hS) ?_; refine xv (ex_move (ev_at rfl)) ?_; refine xv (ex_extract (ev_at rfl) rfl) ?_; refine xv (ex_extract (ev_at rfl) rfl) ?_; refine wl_of rfl (wp_alloc hS (zeT rfl) fun b7 w hS => wl_put (by simp only [lset] <;> rfl) ?_); (first | refine wl_of rfl (wp_storeN (ev_at rfl) (ev_at rfl) hS (szT rfl) rfl (by first | rfl | assumption | (simp only [sub, splice, List.take_succ_cons, List.take_zero, List.drop_succ_cons, List.drop_zero, List.nil_append, List.cons_append, List.length_cons, List.length_nil, Nat.reduceAdd, List.all_cons, List.all_nil, Bool.and_eq_true, Bool.and_true]; ((repeat' apply And.intro) <;> first | rfl | assumption | exact IsSl.one (by assumption)))) fun w hS => wl_put0 ?_) | refine wl_of rfl (wp_storeW (vs := bs.map byteV) (ev_at rfl) (ev_at rfl) hS (szT rfl) (by simp [hbl]) (by simp) (byteV_Oc _) fun w hS => wl_put0 ?_) | refine wl_of rfl (wp_storeW (vs := zSec.map byteV) (ev_at rfl) (ev_at rfl) hS (szT rfl) (by simp) (by simp) (byteV_Oc _) fun w hS => wl_put0 ?_)); refine xv (ex_assign (ev_at rfl)) ?_; refine wl_nil ?_; (try simp only [lset, splice, sub, List.take_succ_cons, List.take_zero, List.drop_succ_cons, List.drop_zero, List.nil_append, List.cons_append, List.length_cons, List.length_nil, Nat.reduceAdd, Nat.zero_add, rep_zero] at hS))
        | ((with_reducible apply wp_region_plain (id := 7)); refine xv (ex_move (ev_at rfl)) ?_; refine xv (ex_not (ev_at rfl)) ?_; refine xv (ex_move (ev_at rfl)) ?_; (first | refine wl_skip rfl rfl (by simp only [lset] <;> rfl) ?_ | (refine xv (ex_load (ev_at rfl) (ldN hS (kdT rfl) (szT rfl) rfl)) ?_)); (first | refine wl_skip rfl rfl (by simp only [lset] <;> rfl) ?_ | (refine xv (ex_load (ev_at rfl) (ldN hS (kdT rfl) (szT rfl) rfl)) ?_)); (first | refine wl_skip rfl rfl (by simp only [lset] <;> rfl) ?_ | (refine xv (ex_neqArr (ev_at rfl) (ev_at rfl) (by fail)) ?_)); (first | refine xv (ex_pickT (ev_at rfl) (ev_const _ _)) ?_ | refine xv (ex_pickF (ev_at rfl) (ev_at rfl)) ?_ | refine xv (ex_pickOr (ev_at rfl) (ev_const _ _) (ev_at rfl)) ?_); refine wl_nil ?_)
        | ((with_reducible apply wp_region_plain (id := 8)); refine xv (ex_assign (ev_const _ _)) ?_; refine wl_nil ?_)
        | ((fail_if_success (with_reducible apply wp_region_plain)); (fail_if_success (with_reducible apply wp_region_GS)); go_step))
      refine end1 (by first | exact .inl rfl | exact .inr rfl) rfl (ResL.rt rfl ResL.rn) ?_
      refine ⟨false, rfl, ?_, hS.drop.drop.mapItEnd⟩
      simp only [Bool.false_eq_true, false_iff]
      rintro ⟨-, h⟩
      have := h _ hca
      rw [hg] at this; cases this
    | some b2 =>
      have hb2 : b2.length = 256 := hb.len _ (kvGet_mem hg)
      by_cases he : bs = b2
      · subst he
        have hb3 := hb2
        repeat' (first
          | ((with_reducible apply wp_region_plain (id := 5)); refine xv (ex_entryMap (ev_at rfl) hS) ?_; refine xv (ex_extract (vs := [.int .i64 ck, secV bs]) (ev_at rfl) rfl) ?_; refine xv (ex_extract (vs := [.int .i64 ck, secV bs]) (ev_at rfl) rfl) ?_; refine wl_of rfl (wp_alloc hS (zeT rfl) fun b6 w hS => wl_put (by simp only [lset] <;> rfl) ?_); refine xv (ex_assign (ev_at rfl)) ?_; (first | refine wl_of rfl (wp_storeN (ev_at rfl) (ev_at rfl) hS (szT rfl) rfl (by first | rfl | assumption | (simp only [sub, splice, List.take_succ_cons, List.take_zero, List.drop_succ_cons, List.drop_zero, List.nil_append, List.cons_append, List.length_cons, List.length_nil, Nat.reduceAdd, List.all_cons, List.all_nil, Bool.and_eq_true, Bool.and_true]; ((repeat' apply And.intro) <;> first | rfl | assumption | exact IsSl.one (by assumption)))) fun w hS => wl_put0 ?_) | refine wl_of rfl (wp_storeW (vs := bs.map byteV) (ev_at rfl) (ev_at rfl) hS (szT rfl) (by simp [hbl]) (by simp) (byteV_Oc _) fun w hS => wl_put0 ?_) | refine wl_of rfl (wp_storeW (vs := bs.map byteV) (ev_at rfl) (ev_at rfl) hS (szT rfl) (by simp [hb3]) (by simp) (byteV_Oc _) fun w hS => wl_put0 ?_)); refine wl_nil ?_; (try simp only [lset, splice, sub, List.take_succ_cons, List.take_zero, List.drop_succ_cons, List.drop_zero, List.nil_append, List.cons_append, List.length_cons, List.length_nil, Nat.reduceAdd, Nat.zero_add, rep_zero] at hS))
          | ((with_reducible apply wp_region_plain (id := 6)); refine xv (ex_move (ev_at rfl)) ?_; refine xv (ex_move (ev_at rfl)) ?_; refine xv (ex_lookS hg (ev_at rfl) (ev_at rfl) hS) ?_; refine xv (ex_move (ev_at rfl)) ?_; refine xv (ex_extract (ev_at rfl) rfl) ?_; refine xv (ex_extract (ev_at rfl) rfl) ?_; refine wl_of rfl (wp_alloc hS (zeT rfl) fun b7 w hS => wl_put (by simp only [lset] <;> rfl) ?_); (first | refine wl_of rfl (wp_storeN (ev_at rfl) (ev_at rfl) hS (szT rfl) rfl (by first | rfl | assumption | (simp only [sub, splice, List.take_succ_cons, List.take_zero, List.drop_succ_cons, List.drop_zero, List.nil_append, List.cons_append, List.length_cons, List.length_nil, Nat.reduceAdd, List.all_cons, List.all_nil, Bool.and_eq_true, Bool.and_true]; ((repeat' apply And.intro) <;> first | rfl | assumption | exact IsSl.one (by assumption)))) fun w hS => wl_put0 ?_) | refine wl_of rfl (wp_storeW (vs := bs.map byteV) (ev_at rfl) (ev_at rfl) hS (szT rfl) (by simp [hbl]) (by simp) (byteV_Oc _) fun w hS => wl_put0 ?_) | refine wl_of rfl (wp_storeW (vs := bs.map byteV) (ev_at rfl) (ev_at rfl) hS (szT rfl) (by simp [hb3]) (by simp) (byteV_Oc _) fun w hS => wl_put0 ?_)); refine xv (ex_assign (ev_at rfl)) ?_; refine wl_nil ?_; (try simp only [lset, splice, sub, List.take_succ_cons, List.take_zero, List.drop_succ_cons, List.drop_zero, List.nil_append, List.cons_append, List.length_cons, List.length_nil, Nat.reduceAdd, Nat.zero_add, rep_zero] at hS))
          | ((with_reducible apply wp_region_plain (id := 7)); refine xv (ex_move (ev_at rfl)) ?_; refine xv (ex_not (ev_at rfl)) ?_; refine xv (ex_move (ev_at rfl)) ?_; (first | refine wl_skip rfl rfl (by simp only [lset] <;> rfl) ?_ | (refine xv (ex_load (ev_at rfl) (by first | exact ldN hS (kdT rfl) (szT rfl) rfl | exact ldNs (ys := bs.map byteV) hS (kdT rfl) (szT rfl) (by simp [sub, hbl]; rw [List.take_of_length_le (by simp [hbl])]) (by simp [hbl]) (by omega) | exact ldNs (ys := bs.map byteV) hS (kdT rfl) (szT rfl) (by simp [sub, hb3]; rw [List.take_of_length_le (by simp [hb3])]) (by simp [hb3]) (by omega))) ?_)); (first | refine wl_skip rfl rfl (by simp only [lset] <;> rfl) ?_ | (refine xv (ex_load (ev_at rfl) (by first | exact ldN hS (kdT rfl) (szT rfl) rfl | exact ldNs (ys := bs.map byteV) hS (kdT rfl) (szT rfl) (by simp [sub, hbl]; rw [List.take_of_length_le (by simp [hbl])]) (by simp [hbl]) (by omega) | exact ldNs (ys := bs.map byteV) hS (kdT rfl) (szT rfl) (by simp [sub, hb3]; rw [List.take_of_length_le (by simp [hb3])]) (by simp [hb3]) (by omega))) ?_)); (first | refine wl_skip rfl rfl (by simp only [lset] <;> rfl) ?_ | (refine xv (ex_neqArrR (ev_at rfl) (ev_at rfl) rfl rfl (arT rfl) (inT rfl) (szT rfl) hbl (by kernel_rfl)) ?_)); (first | refine xv (ex_pickT (ev_at rfl) (ev_const _ _)) ?_ | refine xv (ex_pickF (ev_at rfl) (ev_at rfl)) ?_ | refine xv (ex_pickOr (ev_at rfl) (ev_const _ _) (ev_at rfl)) ?_); refine wl_nil ?_)
          | ((fail_if_success (with_reducible apply wp_region_plain)); (fail_if_success (with_reducible apply wp_region_GS)); go_step))
        refine loopEndM rfl (pre ++ post).length ⟨pre ++ post, _, rfl, hS.drop.drop, ?_, ?_⟩ (by rw [hz]; simp)
        · intro p hp
          rcases hdone p hp with h | h
          · rw [hz] at h
            rcases List.mem_append.1 h with h | h
            · exact .inl (List.mem_append_left _ h)
            · rcases List.mem_cons.1 h with h | h
              · simp only [Prod.mk.injEq] at h
                right
                rw [h.1, hg]
                congr 1
                exact (secV_inj h.2).symm
              · exact .inl (List.mem_append_right _ h)
          · exact .inr h
        · intro q hq
          refine hfrom q ?_
          rw [hz]
          rcases List.mem_append.1 hq with h | h
          · exact List.mem_append_left _ h
          · exact List.mem_append_right _ (List.mem_cons_of_mem _ h)
      · have hne : (bs != b2) = true := by simp [he]
        repeat' (first
          | ((with_reducible apply wp_region_plain (id := 5)); refine xv (ex_entryMap (ev_at rfl) hS) ?_; refine xv (ex_extract (vs := [.int .i64 ck, secV bs]) (ev_at rfl) rfl) ?_; refine xv (ex_extract (vs := [.int .i64 ck, secV bs]) (ev_at rfl) rfl) ?_; refine wl_of rfl (wp_alloc hS (zeT rfl) fun b6 w hS => wl_put (by simp only [lset] <;> rfl) ?_); refine xv (ex_assign (ev_at rfl)) ?_; (first | refine wl_of rfl (wp_storeN (ev_at rfl) (ev_at rfl) hS (szT rfl) rfl (by first | rfl | assumption | (simp only [sub, splice, List.take_succ_cons, List.take_zero, List.drop_succ_cons, List.drop_zero, List.nil_append, List.cons_append, List.length_cons, List.length_nil, Nat.reduceAdd, List.all_cons, List.all_nil, Bool.and_eq_true, Bool.and_true]; ((repeat' apply And.intro) <;> first | rfl | assumption | exact IsSl.one (by assumption)))) fun w hS => wl_put0 ?_) | refine wl_of rfl (wp_storeW (vs := bs.map byteV) (ev_at rfl) (ev_at rfl) hS (szT rfl) (by simp [hbl]) (by simp) (byteV_Oc _) fun w hS => wl_put0 ?_) | refine wl_of rfl (wp_storeW (vs := b2.map byteV) (ev_at rfl) (ev_at rfl) hS (szT rfl) (by simp [hb2]) (by simp) (byteV_Oc _) fun w hS => wl_put0 ?_)); refine wl_nil ?_; (try simp only [lset, splice, sub, List.take_succ_cons, List.take_zero, List.drop_succ_cons, List.drop_zero, List.nil_append, List.cons_append, List.length_cons, List.length_nil, Nat.reduceAdd, Nat.zero_add, rep_zero] at hS))
          | ((with_reducible apply wp_region_plain (id := 6)); refine xv (ex_move (ev_at rfl)) ?_; refine xv (ex_move (ev_at rfl)) ?_; refine xv (ex_lookS hg (ev_at rfl) (ev_at rfl) hS) ?_; refine xv (ex_move (ev_at rfl)) ?_; refine xv (ex_extract (ev_at rfl) rfl) ?_; refine xv (ex_extract (ev_at rfl) rfl) ?_; refine wl_of rfl (wp_alloc hS (zeT rfl) fun b7 w hS => wl_put (by simp only [lset] <;> rfl) ?_); (first | refine wl_of rfl (wp_storeN (ev_at rfl) (ev_at rfl) hS (szT rfl) rfl (by first | rfl | assumption | (simp only [sub, splice, List.take_succ_cons, List.take_zero, List.drop_succ_cons, List.drop_zero, List.nil_append, List.cons_append, List.length_cons, List.length_nil, Nat.reduceAdd, List.all_cons, List.all_nil, Bool.and_eq_true, Bool.and_true]; ((repeat' apply And.intro) <;> first | rfl | assumption | exact IsSl.one (by assumption)))) fun w hS => wl_put0 ?_) | refine wl_of rfl (wp_storeW (vs := bs.map byteV) (ev_at rfl) (ev_at rfl) hS (szT rfl) (by simp [hbl]) (by simp) (byteV_Oc _) fun w hS => wl_put0 ?_) | refine wl_of rfl (wp_storeW (vs := b2.map byteV) (ev_at rfl) (ev_at rfl) hS (szT rfl) (by simp [hb2]) (by simp) (byteV_Oc _) fun w hS => wl_put0 ?_)); refine xv (ex_assign (ev_at rfl)) ?_; refine wl_nil ?_; (try simp only [lset, splice, sub, List.take_succ_cons, List.take_zero, List.drop_succ_cons, List.drop_zero, List.nil_append, List.cons_append, List.length_cons, List.length_nil, Nat.reduceAdd, Nat.zero_add, rep_zero] at hS))
          | ((with_reducible apply wp_region_plain (id := 7)); refine xv (ex_move (ev_at rfl)) ?_; refine xv (ex_not (ev_at rfl)) ?_; refine xv (ex_move (ev_at rfl)) ?_; (first | refine wl_skip rfl rfl (by simp only [lset] <;> rfl) ?_ | (refine xv (ex_load (ev_at rfl) (ldNs (ys := bs.map byteV) hS (kdT rfl) (szT rfl) (sub_all (by simp [hbl])) (by simp [hbl]) (by omega))) ?_)); (first | refine wl_skip rfl rfl (by simp only [lset] <;> rfl) ?_ | (refine xv (ex_load (ev_at rfl) (ldNs (ys := b2.map byteV) hS (kdT rfl) (szT rfl) (sub_all (by simp [hb2])) (by simp [hb2]) (by omega))) ?_)); (first | refine wl_skip rfl rfl (by simp only [lset] <;> rfl) ?_ | (refine xv (ex_neqArrD he (ev_at rfl) (ev_at rfl) rfl rfl (arT rfl) (inT rfl) (szT rfl) hbl hb2 (by kernel_rfl)) ?_)); (first | refine xv (ex_pickT (ev_at rfl) (ev_const _ _)) ?_ | refine xv (ex_pickF (ev_at rfl) (ev_at rfl)) ?_ | refine xv (ex_pickOr (ev_at rfl) (ev_const _ _) (ev_at rfl)) ?_); refine wl_nil ?_)
          | ((with_reducible apply wp_region_plain (id := 8)); refine xv (ex_assign (ev_const _ _)) ?_; refine wl_nil ?_)
          | ((fail_if_success (with_reducible apply wp_region_plain)); (fail_if_success (with_reducible apply wp_region_GS)); go_step))
        refine end1 (by first | exact .inl rfl | exact .inr rfl) rfl (ResL.rt rfl ResL.rn) ?_
        refine ⟨false, rfl, ?_, hS.drop.drop.mapItEnd⟩
        simp only [Bool.false_eq_true, false_iff]
        rintro ⟨-, h⟩
        have := h _ hca
        simp only at this
        rw [hg] at this
        exact he (Option.some.inj this).symm
/-- '!=' of two pending writes. -/
theorem eqWr {k1 k2 : Int} {b1 b2 : List UInt8} (h1 : b1.length = 256) (h2 : b2.length = 256) (w : World) :
    (Op.equalIn 10000 75 (.agg (Value.int .i64 k1 :: b1.map byteV).toArray) (.agg (Value.int .i64 k2 :: b2.map byteV).toArray)).run Try.prog w = .ok ((k1 == k2) && (b1 == b2)) w := by
  have ht : Try.prog.underlying 75 = some (.struct (Try.prog.fieldsOf 75)) := by kernel_rfl
  have hp : Try.prog.stoodInHeld 75 = false := by kernel_rfl
  have hfs : ∃ f0 f1 : Field, (Try.prog.fieldsOf 75).toList = [f0, f1] ∧ f0.name ≠ "_" ∧ f1.name ≠ "_" ∧ f0.type = 3 ∧ f0.offset = 0 ∧ f1.type = 73 ∧ f1.offset = 1 :=
    ⟨_, _, (by kernel_rfl : (Try.prog.fieldsOf 75).toList = [⟨"sector", 3, 0, false, "", "bulletin/disk", 0⟩, ⟨"bytes", 73, 1, false, "", "bulletin/disk", 8⟩]), by decide, by decide, rfl, rfl, rfl, rfl⟩
  obtain ⟨f0, f1, hf, n0, n1, t0, o0, t1, o1⟩ := hfs
  have hu : arrayB Try.prog 73 = some (256, 5) := arT rfl
  have hi : Try.prog.underlying 3 = some (.int .i64) := unT rfl
  have p0 : ∀ (k : Int) (b : List UInt8) (w : World), (part 3 (Value.int .i64 k :: b.map byteV).toArray 0).run Try.prog w = .ok (.int .i64 k) w := by
    intro k b w
    simp [part, run_isAgg (kdT (t := 3) rfl)]
  have p1 : ∀ (k : Int) (b : List UInt8) (w : World), b.length = 256 → (part 73 (Value.int .i64 k :: b.map byteV).toArray 1).run Try.prog w = .ok (.agg (b.map byteV).toArray) w := by
    intro k b w hb
    simp [part, run_isAgg (kdT (t := 73) rfl), Go.SL.run_sizeOf (szT (t := 73) rfl)]
    rw [List.take_of_length_le (by simp [hb])]
  have heq := fun w => run_equalIn_bytes (P := Try.prog) w 9997 73 5 256 (by unfold arrayB at hu; split at hu <;> simp_all) (unT rfl) (fun w => Go.SL.run_sizeOf (szT rfl) w) b1 b2 h1 h2
  rw [show (10000 : Nat) = 9999 + 1 from rfl, run_equalIn_struct w 9999 _ _ _ ht hp, hf]
  simp only [Op.eqFields, n0, n1, ne_eq, not_false_eq_true, if_true, t0, o0, t1, o1, Sem.run_bind, p0, Result.andThen_ok, run_equalIn_int (P := Try.prog) _ 9998 _ .i64 .i64 k1 k2 hi, p1 _ _ _ h1, p1 _ _ _ h2]
  by_cases hk : k1 = k2
  · subst hk
    have := heq w
    rw [cell_byteV] at this
    have q1 := fun w => p1 k1 b1 w h1
    have q2 := fun w => p1 k1 b2 w h2
    simp [q1, q2, this]
    by_cases hb : b1 = b2 <;> simp [hb]
  · have : (k1 == k2) = false := by simp [hk]
    simp [this, hk]
theorem ex_neqWr {a : Act} {dst : Option Tmp} {x y : Operand} {ty yt : TypeId} {pos : String} {af : Array Edge} {gd : Option (Nat × Bool)} {k1 k2 : Int} {b1 b2 : List UInt8} (h1 : b1.length = 256) (h2 : b2.length = 256)
    (hx : a.eval x = .agg (Value.int .i64 k1 :: b1.map byteV).toArray) (hy : a.eval y = .agg (Value.int .i64 k2 :: b2.map byteV).toArray) {r : Bool} (hr : (!((k1 == k2) && (b1 == b2))) = r) :
    Ex Try.prog a ⟨dst, .binOp .neq 75 x y yt, ty, pos, af, gd⟩ w (.bool r) := by
  subst hr
  have hg : Try.prog.eqGuardType Try.prog.depth 75 = false := by kernel_rfl
  unfold Ex execOp
  simp [hx, hy, run_eqGuard_agg w _ _ _ _ _ _ hg, run_neq_struct, eqWr h1 h2]
/-- A pending write as it lies in a slice. -/
theorem flatP_get2 {l : List (Int × List UInt8)} (h : ∀ p ∈ l, p.2.length = 256) {i : Nat} {p : Int × List UInt8} (hp : l[i]? = some p) : sub (flatP l) (i * 257) 257 = .int .i64 p.1 :: p.2.map byteV := flatP_sub h hp
set_option maxHeartbeats 4000000 in
theorem sequal_ct (v u : Value) (a b : List (Int × List UInt8)) (ha : ∀ p ∈ a, p.2.length = 256) (hb : ∀ p ∈ b, p.2.length = 256) (hv : IsSl v a.length) (hu : IsSl u b.length) (r1 : Rds I L v (flatP a)) (r2 : Rds I L u (flatP b)) (hl : a.length ≤ 1000 ∧ b.length ≤ 1000) (hS : Sat w I L) :
    Calls Try.prog 48 #[v, u] w fun e w' => e = .returned (.bool (decide (a = b))) ∧ Sat w' I L := by
  by_cases hlen : a.length = b.length
  case neg =>
    go_enter Try.func48, Try.ntmps48
    repeat' (first
      | ((with_reducible apply wp_region_plain (id := 0)); refine xv (ex_assign (ev_const _ _)) ?_; refine wl_nil ?_)
      | ((with_reducible apply wp_region_plain (id := 1)); refine xv (ex_move (ev_at rfl)) ?_; refine xv (ex_len (ev_at rfl) (slT rfl) (by first | assumption | exact IsSl.nil)) ?_; refine xv (ex_move (ev_at rfl)) ?_; refine xv (ex_len (ev_at rfl) (slT rfl) (by first | assumption | exact IsSl.nil)) ?_; refine xv (ex_cmp (ev_at rfl) (ev_at rfl) (by first | exact neqT (by omega) | exact neqF (by omega) | rfl)) ?_; refine wl_nil ?_)
      | ((with_reducible apply wp_region_plain (id := 2)); refine xv (ex_assign (ev_const _ _)) ?_; refine wl_nil ?_)
      | ((fail_if_success (with_reducible apply wp_region_plain)); (fail_if_success (with_reducible apply wp_region_GS)); go_step))
    refine end1 (by first | exact .inl rfl | exact .inr rfl) rfl (ResL.rt rfl ResL.rn) ?_
    exact ⟨by rw [decide_eq_false]; rintro rfl; exact hlen rfl, hS⟩
  go_enter Try.func48, Try.ntmps48
  repeat' (first
    | ((with_reducible apply wp_region_plain (id := 0)); refine xv (ex_assign (ev_const _ _)) ?_; refine wl_nil ?_)
    | ((with_reducible apply wp_region_plain (id := 1)); refine xv (ex_move (ev_at rfl)) ?_; refine xv (ex_len (ev_at rfl) (slT rfl) (by first | assumption | exact IsSl.nil)) ?_; refine xv (ex_move (ev_at rfl)) ?_; refine xv (ex_len (ev_at rfl) (slT rfl) (by first | assumption | exact IsSl.nil)) ?_; refine xv (ex_cmp (ev_at rfl) (ev_at rfl) (by first | exact neqT (by omega) | exact neqF (by omega) | rfl)) ?_; refine wl_nil ?_)
    | ((with_reducible apply wp_region_plain (id := 3)); refine xv (ex_move (ev_at rfl)) ?_; refine xv (ex_len (ev_at rfl) (slT rfl) (by first | assumption | exact IsSl.nil)) ?_; refine xv (ex_move (ev_const _ _)) ?_; refine wl_nil ?_)
    | ((fail_if_success (with_reducible apply wp_region_plain)); (fail_if_success (with_reducible apply wp_region_GS)); go_step))
  refine wp_loopM [false, false, false, false, true, true, false, false, false, false, false, false, false, true, true, true, true, true, true, true, true, true, true, true, true, true] (fun n f w => ∃ (i : Nat), n = a.length - i ∧ f 13 = .int .i64 i ∧ i ≤ a.length ∧ a.take i = b.take i ∧ Sat w I L) rfl a.length ⟨0, rfl, rfl, Nat.zero_le _, rfl, hS⟩ ?_
  clear hS
  rintro n f w ⟨i, rfl, h13, hi, hq, hS⟩
  simp only [havoc, Nat.reduceAdd, h13]
  by_cases hlt : i < a.length
  case neg =>
    have hi : i = a.length := by omega
    subst hi
    rw [List.take_length, hlen, List.take_length] at hq
    repeat' (first
      | ((with_reducible apply wp_region_plain (id := 4)); refine xv (ex_cmp (ev_at rfl) (ev_at rfl) (by first | exact lssT (by omega) | exact lssF (by omega) | rfl)) ?_; refine wl_nil ?_)
      | ((with_reducible apply wp_region_plain (id := 9)); refine xv (ex_assign (ev_const _ _)) ?_; refine wl_nil ?_)
      | ((fail_if_success (with_reducible apply wp_region_plain)); (fail_if_success (with_reducible apply wp_region_GS)); go_step))
    refine end1 (by first | exact .inl rfl | exact .inr rfl) rfl (ResL.rt rfl ResL.rn) ?_
    exact ⟨by rw [decide_eq_true hq], hS⟩
  have hlt2 : i < b.length := by omega
  obtain ⟨⟨k1, x1⟩, hx1⟩ : ∃ x, a[i]? = some x := ⟨_, List.getElem?_eq_getElem hlt⟩
  obtain ⟨⟨k2, x2⟩, hx2⟩ : ∃ x, b[i]? = some x := ⟨_, List.getElem?_eq_getElem hlt2⟩
  have hl1 : x1.length = 256 := ha _ (List.mem_of_getElem? hx1)
  have hl2 : x2.length = 256 := hb _ (List.mem_of_getElem? hx2)
  by_cases hxx : k1 = k2 ∧ x1 = x2
  · obtain ⟨rfl, rfl⟩ := hxx
    repeat' (first
      | ((with_reducible apply wp_region_plain (id := 4)); refine xv (ex_cmp (ev_at rfl) (ev_at rfl) (by first | exact lssT (by omega) | exact lssF (by omega) | rfl)) ?_; refine wl_nil ?_)
      | ((with_reducible apply wp_region_plain (id := 5)); refine xv (ex_move (ev_at rfl)) ?_; refine xv (ex_assign (ev_at rfl)) ?_; refine wl_nil ?_)
      | ((with_reducible apply wp_region_GS (id := 6) 9 (fun j => [0, 1, 2, 3, 4, 5, 6, 7, 8].contains j) mixed); rfl; exact hS; (clear hS; intro w hS); refine xp 0 rfl rfl (fun w => ex_move (ev_at rfl)) ?_; refine xp 1 rfl rfl (fun w => ex_move (ev_at rfl)) ?_; (first | refine xp 2 rfl rfl (fun w => ex_iaN (ev_at rfl) (ev_at rfl) (slT rfl) (szT rfl) (by first | assumption | exact IsSl.nil) (by omega)) ?_ | refine xp 2 rfl rfl (fun w => ex_ia (ev_at rfl) (ev_at rfl) (slT rfl) (szT rfl) (by first | assumption | exact IsSl.nil) (by omega) (by omega)) ?_); refine xr 3 hS rfl rfl (fun w X hS => ex_load (ev_at rfl) (ldEN (r1.rd hS) hv hlt (kdT rfl) (szT rfl) (flatP_sub ha hx1) (by simp [hl1]))) ?_; refine xp 4 rfl rfl (fun w => ex_move (ev_at rfl)) ?_; refine xp 5 rfl rfl (fun w => ex_move (ev_at rfl)) ?_; (first | refine xp 6 rfl rfl (fun w => ex_iaN (ev_at rfl) (ev_at rfl) (slT rfl) (szT rfl) (by first | assumption | exact IsSl.nil) (by omega)) ?_ | refine xp 6 rfl rfl (fun w => ex_ia (ev_at rfl) (ev_at rfl) (slT rfl) (szT rfl) (by first | assumption | exact IsSl.nil) (by omega) (by omega)) ?_); refine xr 7 hS rfl rfl (fun w X hS => ex_load (ev_at rfl) (ldEN (r2.rd hS) hu hlt2 (kdT rfl) (szT rfl) (flatP_sub hb hx2) (by simp [hl2]))) ?_; refine xp 8 rfl rfl (fun w => ex_neqWr (k1 := k1) (k2 := k1) hl1 hl1 (ev_at rfl) (ev_at rfl) (r := false) (by simp)) ?_; refine wg_end (by decide +kernel) ?_)
      | ((with_reducible apply wp_region_plain (id := 8)); refine xv (ex_arith (ev_at rfl) (ev_const _ _) rfl (by first | exact IntWalk.i64_in _ (by omega) | rfl)) ?_; refine xv (ex_move (ev_at rfl)) ?_; refine wl_nil ?_)
      | ((fail_if_success (with_reducible apply wp_region_plain)); (fail_if_success (with_reducible apply wp_region_GS)); go_step))
    exact loopEndM rfl (a.length - (i + 1)) ⟨i + 1, rfl, rfl, by omega, by rw [take_snoc hx1, take_snoc hx2, hq], hS⟩ (by omega)
  · have hxn : (!((k1 == k2) && (x1 == x2))) = true := by
      rw [Bool.not_eq_true', Bool.eq_false_iff]; intro h; simp at h; exact hxx h
    repeat' (first
      | ((with_reducible apply wp_region_plain (id := 4)); refine xv (ex_cmp (ev_at rfl) (ev_at rfl) (by first | exact lssT (by omega) | exact lssF (by omega) | rfl)) ?_; refine wl_nil ?_)
      | ((with_reducible apply wp_region_plain (id := 5)); refine xv (ex_move (ev_at rfl)) ?_; refine xv (ex_assign (ev_at rfl)) ?_; refine wl_nil ?_)
      | ((with_reducible apply wp_region_GS (id := 6) 9 (fun j => [0, 1, 2, 3, 4, 5, 6, 7, 8].contains j) mixed); rfl; exact hS; (clear hS; intro w hS); refine xp 0 rfl rfl (fun w => ex_move (ev_at rfl)) ?_; refine xp 1 rfl rfl (fun w => ex_move (ev_at rfl)) ?_; (first | refine xp 2 rfl rfl (fun w => ex_iaN (ev_at rfl) (ev_at rfl) (slT rfl) (szT rfl) (by first | assumption | exact IsSl.nil) (by omega)) ?_ | refine xp 2 rfl rfl (fun w => ex_ia (ev_at rfl) (ev_at rfl) (slT rfl) (szT rfl) (by first | assumption | exact IsSl.nil) (by omega) (by omega)) ?_); refine xr 3 hS rfl rfl (fun w X hS => ex_load (ev_at rfl) (ldEN (r1.rd hS) hv hlt (kdT rfl) (szT rfl) (flatP_sub ha hx1) (by simp [hl1]))) ?_; refine xp 4 rfl rfl (fun w => ex_move (ev_at rfl)) ?_; refine xp 5 rfl rfl (fun w => ex_move (ev_at rfl)) ?_; (first | refine xp 6 rfl rfl (fun w => ex_iaN (ev_at rfl) (ev_at rfl) (slT rfl) (szT rfl) (by first | assumption | exact IsSl.nil) (by omega)) ?_ | refine xp 6 rfl rfl (fun w => ex_ia (ev_at rfl) (ev_at rfl) (slT rfl) (szT rfl) (by first | assumption | exact IsSl.nil) (by omega) (by omega)) ?_); refine xr 7 hS rfl rfl (fun w X hS => ex_load (ev_at rfl) (ldEN (r2.rd hS) hu hlt2 (kdT rfl) (szT rfl) (flatP_sub hb hx2) (by simp [hl2]))) ?_; refine xp 8 rfl rfl (fun w => ex_neqWr (k1 := k1) (k2 := k2) hl1 hl2 (ev_at rfl) (ev_at rfl) (r := true) hxn) ?_; refine wg_end (by decide +kernel) ?_)
      | ((with_reducible apply wp_region_plain (id := 7)); refine xv (ex_assign (ev_const _ _)) ?_; refine wl_nil ?_)
      | ((fail_if_success (with_reducible apply wp_region_plain)); (fail_if_success (with_reducible apply wp_region_GS)); go_step))
    refine end1 (by first | exact .inl rfl | exact .inr rfl) rfl (ResL.rt rfl ResL.rn) ?_
    refine ⟨?_, hS⟩
    rw [decide_eq_false]
    rintro rfl
    rw [hx1] at hx2
    simp only [Option.some.injEq, Prod.mk.injEq] at hx2
    exact hxx hx2
end
end Go.Proofs.Try
