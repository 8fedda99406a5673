/- Spools: contracts (1): New, Has, Put, Get, sizes. -/
import Derived.Test.YtggkomlobfpapaaSpTab
import Derived.Test.YtggkomlobfpapaaSpModel
namespace Go.Proofs.Try
open Go.RowKit Go.SL Go.SS Go.SP
set_option maxRecDepth 100000
set_option linter.unusedSimpArgs false
set_option linter.unusedVariables false
section
variable {w : World} {I : Gh} {L : List Ch}
theorem kId : KeyT Try.prog 30 idV okT := keyT_id (el := 5) (unT rfl) (unT rfl) (szT rfl)
theorem agId : Try.prog.eqGuardType Try.prog.depth 30 = false := by kernel_rfl
/-- A spool at a block. -/
def SpC (b : Nat) (s : SpS) : Ch := fun f => ∃ (m : Nat) (ov : Value) (kv : List (Id32 × Value)), kv.Perm (s.arts.map artKV) ∧ Star [Cells b 75 [.int .i64 s.budget, .int .i64 s.bytes, .map (some m), ov], MapK idV okT m kv, Row ov 30 32 s.arts.length (flatE idC (s.arts.map (·.id)))] f
theorem sp_open {b : Nat} {s : SpS} (h : Sat w I (SpC b s :: L)) : ∃ (m : Nat) (ov : Value) (kv : List (Id32 × Value)), kv.Perm (s.arts.map artKV) ∧ Sat w I (Cells b 75 [.int .i64 s.budget, .int .i64 s.bytes, .map (some m), ov] :: MapK idV okT m kv :: Row ov 30 32 s.arts.length (flatE idC (s.arts.map (·.id))) :: L) := by
  obtain ⟨m, h⟩ := Sat.ex_head h
  obtain ⟨ov, h⟩ := Sat.ex_head h
  obtain ⟨kv, h⟩ := Sat.ex_head h
  obtain ⟨hp, h⟩ := Sat.and_head h
  exact ⟨m, ov, kv, hp, h.star⟩
theorem sp_shut {b : Nat} {s : SpS} {m : Nat} {ov : Value} {kv : List (Id32 × Value)} (hp : kv.Perm (s.arts.map artKV)) (h : Sat w I (Cells b 75 [.int .i64 s.budget, .int .i64 s.bytes, .map (some m), ov] :: MapK idV okT m kv :: Row ov 30 32 s.arts.length (flatE idC (s.arts.map (·.id))) :: L)) : Sat w I (SpC b s :: L) :=
  Sat.mk_ex m (Sat.mk_ex ov (Sat.mk_ex kv (Sat.mk_and hp (Sat.unstar (L := [_, _, _]) h))))
/-- The same, with what it holds named. -/
def SpX (b : Nat) (s : SpS) (m : Nat) (ov : Value) (kv : List (Id32 × Value)) : Ch := Star [Cells b 75 [.int .i64 s.budget, .int .i64 s.bytes, .map (some m), ov], MapK idV okT m kv, Row ov 30 32 s.arts.length (flatE idC (s.arts.map (·.id)))]
theorem sp_x {b : Nat} {s : SpS} (h : Sat w I (SpC b s :: L)) : ∃ (m : Nat) (ov : Value) (kv : List (Id32 × Value)), kv.Perm (s.arts.map artKV) ∧ Sat w I (SpX b s m ov kv :: L) := by
  obtain ⟨m, ov, kv, hp, h⟩ := sp_open h
  exact ⟨m, ov, kv, hp, Sat.unstar (L := [_, _, _]) h⟩
theorem x_sp {b : Nat} {s : SpS} {m : Nat} {ov : Value} {kv : List (Id32 × Value)} (hp : kv.Perm (s.arts.map artKV)) (h : Sat w I (SpX b s m ov kv :: L)) : Sat w I (SpC b s :: L) := sp_shut hp h.star
theorem open_x {b : Nat} {s : SpS} {m : Nat} {ov : Value} {kv : List (Id32 × Value)} (h : Sat w I (SpX b s m ov kv :: L)) : Sat w I (Cells b 75 [.int .i64 s.budget, .int .i64 s.bytes, .map (some m), ov] :: MapK idV okT m kv :: Row ov 30 32 s.arts.length (flatE idC (s.arts.map (·.id))) :: L) := h.star
theorem shut_x {b : Nat} {s : SpS} {m : Nat} {ov : Value} {kv : List (Id32 × Value)} (h : Sat w I (Cells b 75 [.int .i64 s.budget, .int .i64 s.bytes, .map (some m), ov] :: MapK idV okT m kv :: Row ov 30 32 s.arts.length (flatE idC (s.arts.map (·.id))) :: L)) : Sat w I (SpX b s m ov kv :: L) := Sat.unstar (L := [_, _, _]) h
theorem kv_find {kv : List (Id32 × Value)} {s : SpS} (hp : kv.Perm (s.arts.map artKV)) (hn : (kv.map Prod.fst).Nodup) (i : Id32) : gGet kv i = (s.find i).map artV := by
  rw [gGet_perm hp hn, gGet_arts]; rfl
theorem zArt (w : World) : (zeroValue 77).run Try.prog w = .ok (.agg [Value.int .i64 0, .string ⟨#[]⟩].toArray) w := by
  have h : (Try.prog.info? 77).bind (·.zero) = some (.agg [Value.int .i64 0, .string ⟨#[]⟩].toArray) := by kernel_rfl
  exact zeroOf h w
set_option maxHeartbeats 4000000 in
theorem spNew_ok (n : Int) (h : 1 ≤ n ∧ n ≤ 1073741824) (hS : Sat w I L) :
    Calls Try.prog 12 #[.int .i64 n] w fun e w' => ∃ b, e = .returned (.tuple #[.pointer (some ⟨b, 0, none⟩), .int .i64 0]) ∧ Sat w' I (SpC b ⟨n, []⟩ :: L) := by
  obtain ⟨h1, h2⟩ := h
  go_enter Try.func12, Try.ntmps12
  repeat' (first
    | ((with_reducible apply wp_region_plain (id := 0)); refine xv (ex_assign (ev_const _ _)) ?_; refine xv (ex_assign (ev_const _ _)) ?_; refine wl_nil ?_)
    | ((with_reducible apply wp_region_plain (id := 1)); refine xv (ex_move (ev_at rfl)) ?_; refine xv (ex_cmp (ev_at rfl) (ev_const _ _) (by first | exact lssT (by omega) | exact lssF (by omega) | rfl)) ?_; refine xv (ex_move (ev_at rfl)) ?_; (first | refine wl_skip rfl rfl (by simp only [lset] <;> rfl) ?_ | (refine xv (ex_move (ev_at rfl)) ?_)); (first | refine wl_skip rfl rfl (by simp only [lset] <;> rfl) ?_ | (refine xv (ex_cmp (ev_at rfl) (ev_const _ _) (by first | exact gtrT (by omega) | exact gtrF (by omega) | rfl)) ?_)); (first | refine xv (ex_pickT (ev_at rfl) (ev_const _ _)) ?_ | refine xv (ex_pickF (ev_at rfl) (ev_at rfl)) ?_ | refine xv (ex_pickOr (ev_at rfl) (ev_const _ _) (ev_at rfl)) ?_); refine wl_nil ?_)
    | ((with_reducible apply wp_region_plain (id := 2)); refine xv (ex_assign (ev_const _ _)) ?_; refine xv (ex_assign (ev_const _ _)) ?_; refine wl_nil ?_)
    | ((with_reducible apply wp_region_plain (id := 3)); refine xv (ex_move (ev_at rfl)) ?_; refine wl_of rfl (wp_makeMapK (key := idV) (ok := okT) hS fun b11 w hS => wl_put (by simp only [lset] <;> rfl) ?_); refine xv (ex_buildS (plT rfl) (zeT rfl) (Fills.cons rfl (ev_at rfl) (by first | exact IsSl.cellsL (by assumption) | exact cellsL1 rfl | rfl) rfl rfl (Fills.cons rfl (ev_at rfl) (by first | exact IsSl.cellsL (by assumption) | exact cellsL1 rfl | rfl) rfl rfl Fills.nil))) ?_; refine wl_of rfl (wp_boxN (ev_at rfl) hS fun b13 w hS => wl_put (by simp only [lset] <;> rfl) ?_); refine xv (ex_assign (ev_at rfl)) ?_; refine xv (ex_assign (ev_const _ _)) ?_; refine wl_nil ?_; (try simp only [lset, splice, sub, List.take_succ_cons, List.take_zero, List.drop_succ_cons, List.drop_zero, List.nil_append, List.cons_append, List.length_cons, List.length_nil, Nat.reduceAdd, Nat.zero_add, rep_zero] at hS))
    | ((fail_if_success (with_reducible apply wp_region_plain)); (fail_if_success (with_reducible apply wp_region_GS)); go_step))
  refine endN (by first | exact .inl rfl | exact .inr rfl) rfl (ResL.rt rfl (ResL.rt rfl ResL.rn)) rfl ?_
  exact ⟨b13, rfl, sp_shut (s := ⟨n, []⟩) (m := b11) (List.Perm.refl _) ((hS.nilRow 30 32).rot3)⟩
set_option maxHeartbeats 4000000 in
theorem spNew_no (n : Int) (h : ¬ (1 ≤ n ∧ n ≤ 1073741824)) (hS : Sat w I L) :
    Calls Try.prog 12 #[.int .i64 n] w fun e w' => e = .returned (.tuple #[.pointer none, .int .i64 2]) ∧ Sat w' I L := by
  by_cases h1 : n < 1
  all_goals
    have h3 : n < 1 ∨ 1073741824 < n := by omega
    go_enter Try.func12, Try.ntmps12
    repeat' (first
      | ((with_reducible apply wp_region_plain (id := 0)); refine xv (ex_assign (ev_const _ _)) ?_; refine xv (ex_assign (ev_const _ _)) ?_; refine wl_nil ?_)
      | ((with_reducible apply wp_region_plain (id := 1)); refine xv (ex_move (ev_at rfl)) ?_; refine xv (ex_cmp (ev_at rfl) (ev_const _ _) (by first | exact lssT (by omega) | exact lssF (by omega) | rfl)) ?_; refine xv (ex_move (ev_at rfl)) ?_; (first | refine wl_skip rfl rfl (by simp only [lset] <;> rfl) ?_ | (refine xv (ex_move (ev_at rfl)) ?_)); (first | refine wl_skip rfl rfl (by simp only [lset] <;> rfl) ?_ | (refine xv (ex_cmp (ev_at rfl) (ev_const _ _) (by first | exact gtrT (by omega) | exact gtrF (by omega) | rfl)) ?_)); (first | refine xv (ex_pickT (ev_at rfl) (ev_const _ _)) ?_ | refine xv (ex_pickF (ev_at rfl) (ev_at rfl)) ?_ | refine xv (ex_pickOr (ev_at rfl) (ev_const _ _) (ev_at rfl)) ?_); refine wl_nil ?_)
      | ((with_reducible apply wp_region_plain (id := 2)); refine xv (ex_assign (ev_const _ _)) ?_; refine xv (ex_assign (ev_const _ _)) ?_; refine wl_nil ?_)
      | ((with_reducible apply wp_region_plain (id := 3)); refine xv (ex_move (ev_at rfl)) ?_; refine wl_of rfl (wp_makeMap hS fun b11 w hS => wl_put (by simp only [lset] <;> rfl) ?_); refine xv (ex_buildS (plT rfl) (zeT rfl) (Fills.cons rfl (ev_at rfl) (by first | exact IsSl.cellsL (by assumption) | exact cellsL1 rfl | rfl) rfl rfl (Fills.cons rfl (ev_at rfl) (by first | exact IsSl.cellsL (by assumption) | exact cellsL1 rfl | rfl) rfl rfl Fills.nil))) ?_; refine wl_of rfl (wp_boxN (ev_at rfl) hS fun b13 w hS => wl_put (by simp only [lset] <;> rfl) ?_); refine xv (ex_assign (ev_at rfl)) ?_; refine xv (ex_assign (ev_const _ _)) ?_; refine wl_nil ?_)
      | ((fail_if_success (with_reducible apply wp_region_plain)); (fail_if_success (with_reducible apply wp_region_GS)); go_step))
    refine endN (by first | exact .inl rfl | exact .inr rfl) rfl (ResL.rt rfl (ResL.rt rfl ResL.rn)) rfl ?_
    exact ⟨rfl, hS⟩
theorem idV_def (i : Id32) : idV i = .agg (idC i).toArray := rfl
/-- What a look into the map of articles yields. -/
theorem kv_look {kv : List (Id32 × Value)} {s : SpS} (hp : kv.Perm (s.arts.map artKV)) (hn : (kv.map Prod.fst).Nodup) (i : Id32) : (gGet kv i).getD (.agg [Value.int .i64 0, .string ⟨#[]⟩].toArray) = artV ((s.find i).getD ⟨i, [], 0⟩) ∧ (gGet kv i).isSome = (s.find i).isSome := by
  rw [kv_find hp hn i]
  cases s.find i <;> exact ⟨rfl, rfl⟩
set_option maxHeartbeats 4000000 in
theorem spHasX_ct {b : Nat} {s : SpS} {m : Nat} {ov : Value} {kv : List (Id32 × Value)} (hp : kv.Perm (s.arts.map artKV)) (i : Id32) (hS : Sat w I (SpX b s m ov kv :: L)) :
    Calls Try.prog 30 #[.pointer (some ⟨b, 0, none⟩), idV i] w fun e w' => e = .returned (.bool (s.find i).isSome) ∧ Sat w' I (SpX b s m ov kv :: L) := by
  have hS := open_x hS
  obtain ⟨hz, hz1⟩ := kv_look hp (hS.mapNodupK (m := m)) i
  generalize (s.find i).getD ⟨i, [], 0⟩ = z at hz
  generalize (s.find i).isSome = r at hz1
  unfold artV at hz
  have hic := idC_len i
  rw [idV_def]
  go_enter Try.func30, Try.ntmps30
  repeat' (first
    | ((with_reducible apply wp_region_plain (id := 0)); refine wl_of rfl (wp_boxN (ev_at rfl) hS fun b3 w hS => wl_put (by simp only [lset] <;> rfl) ?_); refine xv (ex_assign (ev_const _ _)) ?_; refine wl_nil ?_)
    | ((with_reducible apply wp_region_plain (id := 1)); refine xv (ex_move (ev_at rfl)) ?_; (first | refine xv (ex_eqlPtrS (ev_at rfl) (ev_const _ _) (unT rfl)) ?_ | refine xv (ex_eqlPtrN (ev_at rfl) (ev_const _ _) (unT rfl)) ?_ | refine xv (ex_eqlPtr (ev_at rfl) (ev_const _ _) (unT rfl)) ?_); refine wl_nil ?_)
    | ((with_reducible apply wp_region_plain (id := 2)); refine xv (ex_assign (ev_const _ _)) ?_; refine wl_nil ?_)
    | ((with_reducible apply wp_region_GS (id := 3) 12 (fun j => [0, 1, 2, 3, 4, 5, 6, 7, 8, 9, 11].contains j) mixed); rfl; exact hS; (clear hS; intro w hS); refine xp 0 rfl rfl (fun w => ex_move (ev_at rfl)) ?_; (first | refine xp 1 rfl rfl (fun w => ex_nilCheck (ev_at rfl)) ?_ | refine xp 1 rfl rfl (fun w => ex_nilCheckF (ev_at rfl)) ?_); (first | refine xp 2 rfl rfl (fun w => ex_fa (ev_at rfl) (flT rfl)) ?_ | refine xp 2 rfl rfl (fun w => ex_faE (ev_at rfl) (flT rfl) (by assumption) (by assumption)) ?_); refine xr 3 hS rfl rfl (fun w X hS => ex_load (ev_at rfl) (ld1 hS (kdT rfl) rfl)) ?_; refine xr 4 hS rfl rfl (fun w X hS => ex_load (ev_at rfl) (ldW hS (kdT rfl) (szT rfl) hic)) ?_; refine xr 5 hS rfl rfl (fun w X hS => ex_lookupOkKT (key := idV) (ok := okT) (j := i) (ev_at rfl) (ev_at rfl) (unT rfl) kId trivial hS zArt hz hz1) ?_; refine xp 6 rfl rfl (fun w => ex_move (ev_at rfl)) ?_; refine xp 7 rfl rfl (fun w => ex_extract (ev_at rfl) rfl) ?_; refine xp 8 rfl rfl (fun w => ex_extract (ev_at rfl) rfl) ?_; refine wg_loud 9 (by decide +kernel) rfl rfl (wp_alloc hS (zeT rfl) fun b5 w hS => ⟨gsT hS, wg_p (by simp only [lset] <;> rfl) ?_⟩); refine wg_loud 10 (by decide +kernel) rfl rfl (wp_storeN (ev_at rfl) (ev_at rfl) hS (szT rfl) rfl (by first | rfl | assumption | (simp only [sub, splice, List.take_succ_cons, List.take_zero, List.drop_succ_cons, List.drop_zero, List.nil_append, List.cons_append, List.length_cons, List.length_nil, Nat.reduceAdd, List.all_cons, List.all_nil, Bool.and_eq_true, Bool.and_true]; ((repeat' apply And.intro) <;> first | rfl | assumption | exact IsSl.one (by assumption)))) fun w hS => ⟨gsF rfl, wg_n ?_⟩); refine xp 11 rfl rfl (fun w => ex_assign (ev_at rfl)) ?_; refine wg_end (by decide +kernel) ?_; (try simp only [lset, splice, sub, List.take_succ_cons, List.take_zero, List.drop_succ_cons, List.drop_zero, List.nil_append, List.cons_append, List.length_cons, List.length_nil, Nat.reduceAdd, Nat.zero_add, rep_zero] at hS))
    | ((with_reducible apply wp_region_plain (id := 4)); refine xv (ex_move (ev_at rfl)) ?_; refine xv (ex_assign (ev_at rfl)) ?_; refine wl_nil ?_)
    | ((fail_if_success (with_reducible apply wp_region_plain)); (fail_if_success (with_reducible apply wp_region_GS)); go_step))
  refine end1 (by first | exact .inl rfl | exact .inr rfl) rfl (ResL.rt rfl ResL.rn) ?_
  exact ⟨rfl, shut_x hS.drop.drop⟩
theorem spHas_ct {b : Nat} {s : SpS} (i : Id32) (hS : Sat w I (SpC b s :: L)) :
    Calls Try.prog 30 #[.pointer (some ⟨b, 0, none⟩), idV i] w fun e w' => e = .returned (.bool (s.find i).isSome) ∧ Sat w' I (SpC b s :: L) := by
  obtain ⟨m, ov, kv, hp, hS⟩ := sp_x hS
  exact (spHasX_ct hp i hS).mono fun e w' ⟨h1, h2⟩ => ⟨h1, x_sp hp h2⟩
theorem spHasNil_ct (i : Id32) (hS : Sat w I L) :
    Calls Try.prog 30 #[.pointer none, idV i] w fun e w' => e = .returned (.bool false) ∧ Sat w' I L := by
  rw [idV_def]
  go_enter Try.func30, Try.ntmps30
  repeat' (first
    | ((with_reducible apply wp_region_plain (id := 0)); refine wl_of rfl (wp_boxN (ev_at rfl) hS fun b3 w hS => wl_put (by simp only [lset] <;> rfl) ?_); refine xv (ex_assign (ev_const _ _)) ?_; refine wl_nil ?_)
    | ((with_reducible apply wp_region_plain (id := 1)); refine xv (ex_move (ev_at rfl)) ?_; (first | refine xv (ex_eqlPtrS (ev_at rfl) (ev_const _ _) (unT rfl)) ?_ | refine xv (ex_eqlPtrN (ev_at rfl) (ev_const _ _) (unT rfl)) ?_ | refine xv (ex_eqlPtr (ev_at rfl) (ev_const _ _) (unT rfl)) ?_); refine wl_nil ?_)
    | ((with_reducible apply wp_region_plain (id := 2)); refine xv (ex_assign (ev_const _ _)) ?_; refine wl_nil ?_)
    | ((with_reducible apply wp_region_GS (id := 3) 12 (fun j => [0, 1, 2, 3, 4, 5, 6, 7, 8, 9, 11].contains j) mixed); rfl; exact hS; (clear hS; intro w hS); refine xp 0 rfl rfl (fun w => ex_move (ev_at rfl)) ?_; (first | refine xp 1 rfl rfl (fun w => ex_nilCheck (ev_at rfl)) ?_ | refine xp 1 rfl rfl (fun w => ex_nilCheckF (ev_at rfl)) ?_); (first | refine xp 2 rfl rfl (fun w => ex_fa (ev_at rfl) (flT rfl)) ?_ | refine xp 2 rfl rfl (fun w => ex_faE (ev_at rfl) (flT rfl) (by assumption) (by assumption)) ?_); refine xr 3 hS rfl rfl (fun w X hS => ex_load (ev_at rfl) (ld1 hS (kdT rfl) rfl)) ?_; refine xr 4 hS rfl rfl (fun w X hS => ex_load (ev_at rfl) (ldN hS (kdT rfl) (szT rfl) rfl)) ?_; refine xr 5 hS rfl rfl (fun w X hS => ex_lookupOk (ev_at rfl) (ev_at rfl) (unT rfl) (unT rfl) hS (fun w => by fail)) ?_; refine xp 6 rfl rfl (fun w => ex_move (ev_at rfl)) ?_; refine xp 7 rfl rfl (fun w => ex_extract (ev_at rfl) rfl) ?_; refine xp 8 rfl rfl (fun w => ex_extract (ev_at rfl) rfl) ?_; refine wg_loud 9 (by decide +kernel) rfl rfl (wp_alloc hS (zeT rfl) fun b5 w hS => ⟨gsT hS, wg_p (by simp only [lset] <;> rfl) ?_⟩); refine wg_loud 10 (by decide +kernel) rfl rfl (wp_storeN (ev_at rfl) (ev_at rfl) hS (szT rfl) rfl (by first | rfl | assumption | (simp only [sub, splice, List.take_succ_cons, List.take_zero, List.drop_succ_cons, List.drop_zero, List.nil_append, List.cons_append, List.length_cons, List.length_nil, Nat.reduceAdd, List.all_cons, List.all_nil, Bool.and_eq_true, Bool.and_true]; ((repeat' apply And.intro) <;> first | rfl | assumption | exact IsSl.one (by assumption)))) fun w hS => ⟨gsF rfl, wg_n ?_⟩); refine xp 11 rfl rfl (fun w => ex_assign (ev_at rfl)) ?_; refine wg_end (by decide +kernel) ?_; (try simp only [lset, splice, sub, List.take_succ_cons, List.take_zero, List.drop_succ_cons, List.drop_zero, List.nil_append, List.cons_append, List.length_cons, List.length_nil, Nat.reduceAdd, Nat.zero_add, rep_zero] at hS))
    | ((with_reducible apply wp_region_plain (id := 4)); refine xv (ex_move (ev_at rfl)) ?_; refine xv (ex_assign (ev_at rfl)) ?_; refine wl_nil ?_)
    | ((fail_if_success (with_reducible apply wp_region_plain)); (fail_if_success (with_reducible apply wp_region_GS)); go_step))
  refine end1 (by first | exact .inl rfl | exact .inr rfl) rfl (ResL.rt rfl ResL.rn) ?_
  exact ⟨rfl, hS.drop⟩
set_option maxHeartbeats 4000000 in
theorem spGet_ct {b : Nat} {s : SpS} (i : Id32) (hS : Sat w I (SpC b s :: L)) :
    Calls Try.prog 18 #[.pointer (some ⟨b, 0, none⟩), idV i] w fun e w' => e = .returned (.tuple #[.string ⟨(((s.find i).map (·.text)).getD []).toArray⟩, .int .i64 (if (s.find i).isSome then 0 else 8)]) ∧ Sat w' I (SpC b s :: L) := by
  obtain ⟨m, ov, kv, hp, hS⟩ := sp_open hS
  obtain ⟨hz, hz1⟩ := kv_look hp (hS.mapNodupK (m := m)) i
  have hic := idC_len i
  rw [idV_def]
  cases hf : s.find i with
  | none =>
    rw [hf] at hz hz1
    simp only [Option.getD_none, Option.isSome_none] at hz hz1
    unfold artV at hz
    go_enter Try.func18, Try.ntmps18
    repeat' (first
      | ((with_reducible apply wp_region_plain (id := 0)); refine wl_of rfl (wp_boxN (ev_at rfl) hS fun b3 w hS => wl_put (by simp only [lset] <;> rfl) ?_); refine xv (ex_assign (ev_const _ _)) ?_; refine xv (ex_assign (ev_const _ _)) ?_; refine wl_nil ?_)
      | ((with_reducible apply wp_region_plain (id := 1)); refine xv (ex_move (ev_at rfl)) ?_; (first | refine xv (ex_eqlPtrS (ev_at rfl) (ev_const _ _) (unT rfl)) ?_ | refine xv (ex_eqlPtrN (ev_at rfl) (ev_const _ _) (unT rfl)) ?_ | refine xv (ex_eqlPtr (ev_at rfl) (ev_const _ _) (unT rfl)) ?_); refine wl_nil ?_)
      | ((with_reducible apply wp_region_plain (id := 2)); refine xv (ex_assign (ev_const _ _)) ?_; refine xv (ex_assign (ev_const _ _)) ?_; refine wl_nil ?_)
      | ((with_reducible apply wp_region_GS (id := 3) 12 (fun j => [0, 1, 2, 3, 4, 5, 6, 7, 8, 9, 11].contains j) mixed); rfl; exact hS; (clear hS; intro w hS); refine xp 0 rfl rfl (fun w => ex_move (ev_at rfl)) ?_; (first | refine xp 1 rfl rfl (fun w => ex_nilCheck (ev_at rfl)) ?_ | refine xp 1 rfl rfl (fun w => ex_nilCheckF (ev_at rfl)) ?_); (first | refine xp 2 rfl rfl (fun w => ex_fa (ev_at rfl) (flT rfl)) ?_ | refine xp 2 rfl rfl (fun w => ex_faE (ev_at rfl) (flT rfl) (by assumption) (by assumption)) ?_); refine xr 3 hS rfl rfl (fun w X hS => ex_load (ev_at rfl) (ld1 hS (kdT rfl) rfl)) ?_; refine xr 4 hS rfl rfl (fun w X hS => ex_load (ev_at rfl) (ldW hS (kdT rfl) (szT rfl) hic)) ?_; refine xr 5 hS rfl rfl (fun w X hS => ex_lookupOkKT (key := idV) (ok := okT) (j := i) (ev_at rfl) (ev_at rfl) (unT rfl) kId trivial hS zArt hz hz1) ?_; refine xp 6 rfl rfl (fun w => ex_move (ev_at rfl)) ?_; refine xp 7 rfl rfl (fun w => ex_extract (ev_at rfl) rfl) ?_; refine xp 8 rfl rfl (fun w => ex_extract (ev_at rfl) rfl) ?_; refine wg_loud 9 (by decide +kernel) rfl rfl (wp_alloc hS (zeT rfl) fun b6 w hS => ⟨gsT hS, wg_p (by simp only [lset] <;> rfl) ?_⟩); refine wg_loud 10 (by decide +kernel) rfl rfl (wp_storeN (ev_at rfl) (ev_at rfl) hS (szT rfl) rfl (by first | rfl | assumption | (simp only [sub, splice, List.take_succ_cons, List.take_zero, List.drop_succ_cons, List.drop_zero, List.nil_append, List.cons_append, List.length_cons, List.length_nil, Nat.reduceAdd, List.all_cons, List.all_nil, Bool.and_eq_true, Bool.and_true]; ((repeat' apply And.intro) <;> first | rfl | assumption | exact IsSl.one (by assumption)))) fun w hS => ⟨gsF rfl, wg_n ?_⟩); refine xp 11 rfl rfl (fun w => ex_assign (ev_at rfl)) ?_; refine wg_end (by decide +kernel) ?_; (try simp only [lset, splice, sub, List.take_succ_cons, List.take_zero, List.drop_succ_cons, List.drop_zero, List.nil_append, List.cons_append, List.length_cons, List.length_nil, Nat.reduceAdd, Nat.zero_add, rep_zero] at hS))
      | ((with_reducible apply wp_region_plain (id := 4)); refine xv (ex_move (ev_at rfl)) ?_; refine xv (ex_not (ev_at rfl)) ?_; refine wl_nil ?_)
      | ((with_reducible apply wp_region_plain (id := 5)); refine xv (ex_assign (ev_const _ _)) ?_; refine xv (ex_assign (ev_const _ _)) ?_; refine wl_nil ?_)
      | ((with_reducible apply wp_region_plain (id := 6)); (first | refine xv (ex_fa (ev_at rfl) (flT rfl)) ?_ | refine xv (ex_faE (ev_at rfl) (flT rfl) (by assumption) (by assumption)) ?_); refine xv (ex_load (ev_at rfl) (ld1 hS (kdT rfl) rfl)) ?_; refine xv (ex_assign (ev_at rfl)) ?_; refine xv (ex_assign (ev_const _ _)) ?_; refine wl_nil ?_)
      | ((fail_if_success (with_reducible apply wp_region_plain)); (fail_if_success (with_reducible apply wp_region_GS)); go_step))
    refine endN (by first | exact .inl rfl | exact .inr rfl) rfl (ResL.rt rfl (ResL.rt rfl ResL.rn)) rfl ?_
    exact ⟨rfl, sp_shut hp hS.drop.drop⟩
  | some a =>
    rw [hf] at hz hz1
    simp only [Option.getD_some, Option.isSome_some] at hz hz1
    unfold artV at hz
    go_enter Try.func18, Try.ntmps18
    repeat' (first
      | ((with_reducible apply wp_region_plain (id := 0)); refine wl_of rfl (wp_boxN (ev_at rfl) hS fun b3 w hS => wl_put (by simp only [lset] <;> rfl) ?_); refine xv (ex_assign (ev_const _ _)) ?_; refine xv (ex_assign (ev_const _ _)) ?_; refine wl_nil ?_)
      | ((with_reducible apply wp_region_plain (id := 1)); refine xv (ex_move (ev_at rfl)) ?_; (first | refine xv (ex_eqlPtrS (ev_at rfl) (ev_const _ _) (unT rfl)) ?_ | refine xv (ex_eqlPtrN (ev_at rfl) (ev_const _ _) (unT rfl)) ?_ | refine xv (ex_eqlPtr (ev_at rfl) (ev_const _ _) (unT rfl)) ?_); refine wl_nil ?_)
      | ((with_reducible apply wp_region_plain (id := 2)); refine xv (ex_assign (ev_const _ _)) ?_; refine xv (ex_assign (ev_const _ _)) ?_; refine wl_nil ?_)
      | ((with_reducible apply wp_region_GS (id := 3) 12 (fun j => [0, 1, 2, 3, 4, 5, 6, 7, 8, 9, 11].contains j) mixed); rfl; exact hS; (clear hS; intro w hS); refine xp 0 rfl rfl (fun w => ex_move (ev_at rfl)) ?_; (first | refine xp 1 rfl rfl (fun w => ex_nilCheck (ev_at rfl)) ?_ | refine xp 1 rfl rfl (fun w => ex_nilCheckF (ev_at rfl)) ?_); (first | refine xp 2 rfl rfl (fun w => ex_fa (ev_at rfl) (flT rfl)) ?_ | refine xp 2 rfl rfl (fun w => ex_faE (ev_at rfl) (flT rfl) (by assumption) (by assumption)) ?_); refine xr 3 hS rfl rfl (fun w X hS => ex_load (ev_at rfl) (ld1 hS (kdT rfl) rfl)) ?_; refine xr 4 hS rfl rfl (fun w X hS => ex_load (ev_at rfl) (ldW hS (kdT rfl) (szT rfl) hic)) ?_; refine xr 5 hS rfl rfl (fun w X hS => ex_lookupOkKT (key := idV) (ok := okT) (j := i) (ev_at rfl) (ev_at rfl) (unT rfl) kId trivial hS zArt hz hz1) ?_; refine xp 6 rfl rfl (fun w => ex_move (ev_at rfl)) ?_; refine xp 7 rfl rfl (fun w => ex_extract (ev_at rfl) rfl) ?_; refine xp 8 rfl rfl (fun w => ex_extract (ev_at rfl) rfl) ?_; refine wg_loud 9 (by decide +kernel) rfl rfl (wp_alloc hS (zeT rfl) fun b6 w hS => ⟨gsT hS, wg_p (by simp only [lset] <;> rfl) ?_⟩); refine wg_loud 10 (by decide +kernel) rfl rfl (wp_storeN (ev_at rfl) (ev_at rfl) hS (szT rfl) rfl (by first | rfl | assumption | (simp only [sub, splice, List.take_succ_cons, List.take_zero, List.drop_succ_cons, List.drop_zero, List.nil_append, List.cons_append, List.length_cons, List.length_nil, Nat.reduceAdd, List.all_cons, List.all_nil, Bool.and_eq_true, Bool.and_true]; ((repeat' apply And.intro) <;> first | rfl | assumption | exact IsSl.one (by assumption)))) fun w hS => ⟨gsF rfl, wg_n ?_⟩); refine xp 11 rfl rfl (fun w => ex_assign (ev_at rfl)) ?_; refine wg_end (by decide +kernel) ?_; (try simp only [lset, splice, sub, List.take_succ_cons, List.take_zero, List.drop_succ_cons, List.drop_zero, List.nil_append, List.cons_append, List.length_cons, List.length_nil, Nat.reduceAdd, Nat.zero_add, rep_zero] at hS))
      | ((with_reducible apply wp_region_plain (id := 4)); refine xv (ex_move (ev_at rfl)) ?_; refine xv (ex_not (ev_at rfl)) ?_; refine wl_nil ?_)
      | ((with_reducible apply wp_region_plain (id := 5)); refine xv (ex_assign (ev_const _ _)) ?_; refine xv (ex_assign (ev_const _ _)) ?_; refine wl_nil ?_)
      | ((with_reducible apply wp_region_plain (id := 6)); (first | refine xv (ex_fa (ev_at rfl) (flT rfl)) ?_ | refine xv (ex_faE (ev_at rfl) (flT rfl) (by assumption) (by assumption)) ?_); refine xv (ex_load (ev_at rfl) (ld1 hS (kdT rfl) rfl)) ?_; refine xv (ex_assign (ev_at rfl)) ?_; refine xv (ex_assign (ev_const _ _)) ?_; refine wl_nil ?_)
      | ((fail_if_success (with_reducible apply wp_region_plain)); (fail_if_success (with_reducible apply wp_region_GS)); go_step))
    refine endN (by first | exact .inl rfl | exact .inr rfl) rfl (ResL.rt rfl (ResL.rt rfl ResL.rn)) rfl ?_
    exact ⟨rfl, sp_shut hp hS.drop.drop⟩
theorem spGetNil_ct (i : Id32) (hS : Sat w I L) :
    Calls Try.prog 18 #[.pointer none, idV i] w fun e w' => e = .returned (.tuple #[.string ⟨#[]⟩, .int .i64 1]) ∧ Sat w' I L := by
  rw [idV_def]
  go_enter Try.func18, Try.ntmps18
  repeat' (first
    | ((with_reducible apply wp_region_plain (id := 0)); refine wl_of rfl (wp_boxN (ev_at rfl) hS fun b3 w hS => wl_put (by simp only [lset] <;> rfl) ?_); refine xv (ex_assign (ev_const _ _)) ?_; refine xv (ex_assign (ev_const _ _)) ?_; refine wl_nil ?_)
    | ((with_reducible apply wp_region_plain (id := 1)); refine xv (ex_move (ev_at rfl)) ?_; (first | refine xv (ex_eqlPtrS (ev_at rfl) (ev_const _ _) (unT rfl)) ?_ | refine xv (ex_eqlPtrN (ev_at rfl) (ev_const _ _) (unT rfl)) ?_ | refine xv (ex_eqlPtr (ev_at rfl) (ev_const _ _) (unT rfl)) ?_); refine wl_nil ?_)
    | ((with_reducible apply wp_region_plain (id := 2)); refine xv (ex_assign (ev_const _ _)) ?_; refine xv (ex_assign (ev_const _ _)) ?_; refine wl_nil ?_)
    | ((with_reducible apply wp_region_GS (id := 3) 12 (fun j => [0, 1, 2, 3, 4, 5, 6, 7, 8, 9, 11].contains j) mixed); rfl; exact hS; (clear hS; intro w hS); refine xp 0 rfl rfl (fun w => ex_move (ev_at rfl)) ?_; (first | refine xp 1 rfl rfl (fun w => ex_nilCheck (ev_at rfl)) ?_ | refine xp 1 rfl rfl (fun w => ex_nilCheckF (ev_at rfl)) ?_); (first | refine xp 2 rfl rfl (fun w => ex_fa (ev_at rfl) (flT rfl)) ?_ | refine xp 2 rfl rfl (fun w => ex_faE (ev_at rfl) (flT rfl) (by assumption) (by assumption)) ?_); refine xr 3 hS rfl rfl (fun w X hS => ex_load (ev_at rfl) (ld1 hS (kdT rfl) rfl)) ?_; refine xr 4 hS rfl rfl (fun w X hS => ex_load (ev_at rfl) (ldN hS (kdT rfl) (szT rfl) rfl)) ?_; refine xr 5 hS rfl rfl (fun w X hS => ex_lookupOk (ev_at rfl) (ev_at rfl) (unT rfl) (unT rfl) hS (fun w => by fail)) ?_; refine xp 6 rfl rfl (fun w => ex_move (ev_at rfl)) ?_; refine xp 7 rfl rfl (fun w => ex_extract (ev_at rfl) rfl) ?_; refine xp 8 rfl rfl (fun w => ex_extract (ev_at rfl) rfl) ?_; refine wg_loud 9 (by decide +kernel) rfl rfl (wp_alloc hS (zeT rfl) fun b6 w hS => ⟨gsT hS, wg_p (by simp only [lset] <;> rfl) ?_⟩); refine wg_loud 10 (by decide +kernel) rfl rfl (wp_storeN (ev_at rfl) (ev_at rfl) hS (szT rfl) rfl (by first | rfl | assumption | (simp only [sub, splice, List.take_succ_cons, List.take_zero, List.drop_succ_cons, List.drop_zero, List.nil_append, List.cons_append, List.length_cons, List.length_nil, Nat.reduceAdd, List.all_cons, List.all_nil, Bool.and_eq_true, Bool.and_true]; ((repeat' apply And.intro) <;> first | rfl | assumption | exact IsSl.one (by assumption)))) fun w hS => ⟨gsF rfl, wg_n ?_⟩); refine xp 11 rfl rfl (fun w => ex_assign (ev_at rfl)) ?_; refine wg_end (by decide +kernel) ?_; (try simp only [lset, splice, sub, List.take_succ_cons, List.take_zero, List.drop_succ_cons, List.drop_zero, List.nil_append, List.cons_append, List.length_cons, List.length_nil, Nat.reduceAdd, Nat.zero_add, rep_zero] at hS))
    | ((with_reducible apply wp_region_plain (id := 4)); refine xv (ex_move (ev_at rfl)) ?_; refine xv (ex_not (ev_at rfl)) ?_; refine wl_nil ?_)
    | ((with_reducible apply wp_region_plain (id := 5)); refine xv (ex_assign (ev_const _ _)) ?_; refine xv (ex_assign (ev_const _ _)) ?_; refine wl_nil ?_)
    | ((with_reducible apply wp_region_plain (id := 6)); (first | refine xv (ex_fa (ev_at rfl) (flT rfl)) ?_ | refine xv (ex_faE (ev_at rfl) (flT rfl) (by assumption) (by assumption)) ?_); refine xv (ex_load (ev_at rfl) (ld1 hS (kdT rfl) rfl)) ?_; refine xv (ex_assign (ev_at rfl)) ?_; refine xv (ex_assign (ev_const _ _)) ?_; refine wl_nil ?_)
    | ((fail_if_success (with_reducible apply wp_region_plain)); (fail_if_success (with_reducible apply wp_region_GS)); go_step))
  refine endN (by first | exact .inl rfl | exact .inr rfl) rfl (ResL.rt rfl (ResL.rt rfl ResL.rn)) rfl ?_
  exact ⟨rfl, hS.drop⟩
theorem spBytes_ct {b : Nat} {s : SpS} (hS : Sat w I (SpC b s :: L)) :
    Calls Try.prog 19 #[.pointer (some ⟨b, 0, none⟩)] w fun e w' => e = .returned (.int .i64 s.bytes) ∧ Sat w' I (SpC b s :: L) := by
  obtain ⟨m, ov, kv, hp, hS⟩ := sp_open hS
  go_enter Try.func19, Try.ntmps19
  repeat' (first
    | ((with_reducible apply wp_region_plain (id := 0)); refine xv (ex_assign (ev_const _ _)) ?_; refine wl_nil ?_)
    | ((with_reducible apply wp_region_plain (id := 1)); refine xv (ex_move (ev_at rfl)) ?_; (first | refine xv (ex_eqlPtrS (ev_at rfl) (ev_const _ _) (unT rfl)) ?_ | refine xv (ex_eqlPtrN (ev_at rfl) (ev_const _ _) (unT rfl)) ?_ | refine xv (ex_eqlPtr (ev_at rfl) (ev_const _ _) (unT rfl)) ?_); refine wl_nil ?_)
    | ((with_reducible apply wp_region_plain (id := 2)); refine xv (ex_assign (ev_const _ _)) ?_; refine wl_nil ?_)
    | ((with_reducible apply wp_region_plain (id := 3)); refine xv (ex_move (ev_at rfl)) ?_; (first | refine xv (ex_nilCheck (ev_at rfl)) ?_ | refine xv (ex_nilCheckF (ev_at rfl)) ?_); (first | refine xv (ex_fa (ev_at rfl) (flT rfl)) ?_ | refine xv (ex_faE (ev_at rfl) (flT rfl) (by assumption) (by assumption)) ?_); refine xv (ex_load (ev_at rfl) (ld1 hS (kdT rfl) rfl)) ?_; refine xv (ex_assign (ev_at rfl)) ?_; refine wl_nil ?_)
    | ((fail_if_success (with_reducible apply wp_region_plain)); (fail_if_success (with_reducible apply wp_region_GS)); go_step))
  refine end1 (by first | exact .inl rfl | exact .inr rfl) rfl (ResL.rt rfl ResL.rn) ?_
  exact ⟨rfl, sp_shut hp hS⟩
theorem spFree_ct {b : Nat} {s : SpS} (hs : SpOk s) (hS : Sat w I (SpC b s :: L)) :
    Calls Try.prog 20 #[.pointer (some ⟨b, 0, none⟩)] w fun e w' => e = .returned (.int .i64 (s.budget - s.bytes)) ∧ Sat w' I (SpC b s :: L) := by
  obtain ⟨m, ov, kv, hp, hS⟩ := sp_open hS
  have h1 := hs.b1
  have h2 := hs.b2
  have h3 := hs.by_
  go_enter Try.func20, Try.ntmps20
  repeat' (first
    | ((with_reducible apply wp_region_plain (id := 0)); refine xv (ex_assign (ev_const _ _)) ?_; refine wl_nil ?_)
    | ((with_reducible apply wp_region_plain (id := 1)); refine xv (ex_move (ev_at rfl)) ?_; (first | refine xv (ex_eqlPtrS (ev_at rfl) (ev_const _ _) (unT rfl)) ?_ | refine xv (ex_eqlPtrN (ev_at rfl) (ev_const _ _) (unT rfl)) ?_ | refine xv (ex_eqlPtr (ev_at rfl) (ev_const _ _) (unT rfl)) ?_); refine wl_nil ?_)
    | ((with_reducible apply wp_region_plain (id := 2)); refine xv (ex_assign (ev_const _ _)) ?_; refine wl_nil ?_)
    | ((with_reducible apply wp_region_GS (id := 3) 10 (fun j => [0, 1, 2, 3, 4, 5, 6, 7, 8, 9].contains j) mixed); rfl; exact hS; (clear hS; intro w hS); refine xp 0 rfl rfl (fun w => ex_move (ev_at rfl)) ?_; (first | refine xp 1 rfl rfl (fun w => ex_nilCheck (ev_at rfl)) ?_ | refine xp 1 rfl rfl (fun w => ex_nilCheckF (ev_at rfl)) ?_); (first | refine xp 2 rfl rfl (fun w => ex_fa (ev_at rfl) (flT rfl)) ?_ | refine xp 2 rfl rfl (fun w => ex_faE (ev_at rfl) (flT rfl) (by assumption) (by assumption)) ?_); refine xr 3 hS rfl rfl (fun w X hS => ex_load (ev_at rfl) (ld1 hS (kdT rfl) rfl)) ?_; refine xp 4 rfl rfl (fun w => ex_move (ev_at rfl)) ?_; (first | refine xp 5 rfl rfl (fun w => ex_nilCheck (ev_at rfl)) ?_ | refine xp 5 rfl rfl (fun w => ex_nilCheckF (ev_at rfl)) ?_); (first | refine xp 6 rfl rfl (fun w => ex_fa (ev_at rfl) (flT rfl)) ?_ | refine xp 6 rfl rfl (fun w => ex_faE (ev_at rfl) (flT rfl) (by assumption) (by assumption)) ?_); refine xr 7 hS rfl rfl (fun w X hS => ex_load (ev_at rfl) (ld1 hS (kdT rfl) rfl)) ?_; refine xp 8 rfl rfl (fun w => ex_arith (ev_at rfl) (ev_at rfl) rfl (by first | exact IntWalk.i64_in _ (by omega) | rfl)) ?_; refine xp 9 rfl rfl (fun w => ex_assign (ev_at rfl)) ?_; refine wg_end (by decide +kernel) ?_)
    | ((fail_if_success (with_reducible apply wp_region_plain)); (fail_if_success (with_reducible apply wp_region_GS)); go_step))
  refine end1 (by first | exact .inl rfl | exact .inr rfl) rfl (ResL.rt rfl ResL.rn) ?_
  exact ⟨rfl, sp_shut hp hS⟩
theorem spLen_ct {b : Nat} {s : SpS} (hS : Sat w I (SpC b s :: L)) :
    Calls Try.prog 21 #[.pointer (some ⟨b, 0, none⟩)] w fun e w' => e = .returned (.int .i64 s.arts.length) ∧ Sat w' I (SpC b s :: L) := by
  obtain ⟨m, ov, kv, hp, hS⟩ := sp_open hS
  have hoi := (hS.rowH (v := ov)).1
  go_enter Try.func21, Try.ntmps21
  repeat' (first
    | ((with_reducible apply wp_region_plain (id := 0)); refine xv (ex_assign (ev_const _ _)) ?_; refine wl_nil ?_)
    | ((with_reducible apply wp_region_plain (id := 1)); refine xv (ex_move (ev_at rfl)) ?_; (first | refine xv (ex_eqlPtrS (ev_at rfl) (ev_const _ _) (unT rfl)) ?_ | refine xv (ex_eqlPtrN (ev_at rfl) (ev_const _ _) (unT rfl)) ?_ | refine xv (ex_eqlPtr (ev_at rfl) (ev_const _ _) (unT rfl)) ?_); refine wl_nil ?_)
    | ((with_reducible apply wp_region_plain (id := 2)); refine xv (ex_assign (ev_const _ _)) ?_; refine wl_nil ?_)
    | ((with_reducible apply wp_region_plain (id := 3)); refine xv (ex_move (ev_at rfl)) ?_; (first | refine xv (ex_nilCheck (ev_at rfl)) ?_ | refine xv (ex_nilCheckF (ev_at rfl)) ?_); (first | refine xv (ex_fa (ev_at rfl) (flT rfl)) ?_ | refine xv (ex_faE (ev_at rfl) (flT rfl) (by assumption) (by assumption)) ?_); refine xv (ex_load (ev_at rfl) (ld1 hS (kdT rfl) rfl)) ?_; refine xv (ex_len (ev_at rfl) (slT rfl) (by first | assumption | exact IsSl.nil)) ?_; refine xv (ex_assign (ev_at rfl)) ?_; refine wl_nil ?_)
    | ((fail_if_success (with_reducible apply wp_region_plain)); (fail_if_success (with_reducible apply wp_region_GS)); go_step))
  refine end1 (by first | exact .inl rfl | exact .inr rfl) rfl (ResL.rt rfl ResL.rn) ?_
  exact ⟨rfl, sp_shut hp hS⟩
end
end Go.Proofs.Try
