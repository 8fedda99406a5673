/- The law's own functions: list, run. -/
import Derived.Test.YtjklnjpmjdbogaaHB
import Derived.Test.YtjklnjpmjdbogaaE6
import Derived.Test.YtjklnjpmjdbogaaRec4
namespace Go.Proofs.Try
open Go.RowKit Go.SL Go.SH Go.RC
set_option maxRecDepth 100000
set_option linter.unusedSimpArgs false
set_option linter.unusedVariables false
section
variable {w : World} {I : Gh} {L : List Ch}
theorem ex_remTo {a : Act} {dst : Option Tmp} {x y : Operand} {t ty yt : TypeId} {pos : String} {af : Array Edge} {gd : Option (Nat × Bool)} {kk : IntKind} {mi ni r : Int} (hx : a.eval x = .int kk mi) (hy : a.eval y = .int kk ni) (hn : ni ≠ 0) (h0 : 0 ≤ mi) (hr : mi % ni = r) : Ex Try.prog a ⟨dst, .binOp .rem t x y yt, ty, pos, af, gd⟩ w (.int kk r) := by
  subst hr
  exact ex_rem hx hy hn h0
theorem RecL.len {cs : List Value} {rs : List RecS} (h : RecL I cs rs) : cs.length = rs.length * 4 := by
  induction h with
  | nil => rfl
  | snoc _ _ ih => simp [ih]; omega
theorem RecL.get {cs : List Value} {rs : List RecS} (h : RecL I cs rs) : ∀ (i : Nat) (r : RecS), rs[i]? = some r → ∃ pv, sub cs (i * 4) 4 = [.int .i64 r.kind, .int .i64 r.gen, .int .i64 r.num, pv] ∧ SlI I pv r.pay.length (r.pay.map byteV) := by
  induction h with
  | nil => intro i r h; simp at h
  | @snoc cs rs r0 pv h0 hp ih =>
    intro i r hi
    have hl := h0.len
    rcases Nat.lt_or_ge i rs.length with hlt | hge
    · rw [List.getElem?_append_left hlt] at hi
      obtain ⟨pv2, h1, h2⟩ := ih i r hi
      refine ⟨pv2, ?_, h2⟩
      rw [← h1]
      simp only [sub]
      rw [List.drop_append_of_le_length (by omega), List.take_append_of_le_length (by simp; omega)]
    · rw [List.getElem?_append_right hge] at hi
      have h0' : i - rs.length = 0 := by
        rcases Nat.eq_zero_or_pos (i - rs.length) with h | h
        · exact h
        · rw [List.getElem?_eq_none (by simp; omega)] at hi; cases hi
      rw [h0'] at hi
      simp at hi
      subst hi
      refine ⟨pv, ?_, hp⟩
      simp only [sub]
      rw [show i * 4 = cs.length from by omega, List.drop_left]
      rfl
set_option maxHeartbeats 8000000 in
theorem list_ct (v u : Value) (rs : List RecS) (hv : RecI I v rs) (hu : RecI I u rs) (hn : rs.length ≤ 1099511627) (hS : Sat w I L) :
    Calls Try.prog 41 #[v, u] w fun e w' => e = .returned (.bool true) ∧ Sat w' I L := by
  obtain ⟨cs, hcs, hcl⟩ := hv
  obtain ⟨ds, hds, hdl⟩ := hu
  have hvi := hcs.is
  have hui := hds.is
  go_enter Try.func41, Try.ntmps41
  repeat' (first
    | ((with_reducible apply wp_region_plain (id := 0)); refine xv (ex_assign (ev_const _ _)) ?_; refine wl_nil ?_)
    | ((with_reducible apply wp_region_plain (id := 1)); refine xv (ex_move (ev_at rfl)) ?_; refine xv (ex_len (ev_at rfl) (slT rfl) (by first | assumption | exact IsSl.nil)) ?_; refine xv (ex_move (ev_at rfl)) ?_; refine xv (ex_len (ev_at rfl) (slT rfl) (by first | assumption | exact IsSl.nil)) ?_; refine xv (ex_cmp (ev_at rfl) (ev_at rfl) (by first | exact neqT (by omega) | exact neqF (by omega) | rfl)) ?_; refine wl_nil ?_)
    | ((with_reducible apply wp_region_plain (id := 3)); refine xv (ex_assign (ev_const _ _)) ?_; refine wl_nil ?_)
    | ((fail_if_success (with_reducible apply wp_region_plain)); (fail_if_success (with_reducible apply wp_region_GS)); go_step))
  refine wp_loopM [false, false, false, false, true, true, false, false, false, false, false, true, true, true, true, true, true, true, true, true, true, true, true, true, true, true, true, true] (fun n f w => ∃ i : Nat, n = rs.length - i ∧ f 5 = .int .i64 i ∧ i ≤ rs.length ∧ Sat w I L) rfl rs.length ⟨0, rfl, rfl, by omega, hS⟩ ?_
  clear hS
  rintro n f w ⟨i, rfl, h5, hi, hS⟩
  simp only [havoc, Nat.reduceAdd, h5]
  by_cases hlt : i < rs.length
  case neg =>
    repeat' (first
      | ((with_reducible apply wp_region_plain (id := 4)); refine xv (ex_move (ev_at rfl)) ?_; refine xv (ex_move (ev_at rfl)) ?_; refine xv (ex_len (ev_at rfl) (slT rfl) (by first | assumption | exact IsSl.nil)) ?_; refine xv (ex_cmp (ev_at rfl) (ev_at rfl) (by first | exact lssT (by omega) | exact lssF (by omega) | rfl)) ?_; refine wl_nil ?_)
      | ((with_reducible apply wp_region_plain (id := 8)); refine xv (ex_assign (ev_const _ _)) ?_; refine wl_nil ?_)
      | ((fail_if_success (with_reducible apply wp_region_plain)); (fail_if_success (with_reducible apply wp_region_GS)); go_step))
    refine end1 (by first | exact .inl rfl | exact .inr rfl) rfl (ResL.rt rfl ResL.rn) ?_
    exact ⟨rfl, hS⟩
  have hg : rs[i]? = some rs[i] := List.getElem?_eq_getElem hlt
  generalize rs[i] = r at hg
  obtain ⟨pv, hs1, hp1⟩ := hcl.get i r hg
  obtain ⟨pu, hs2, hp2⟩ := hdl.get i r hg
  have hto := fun (w : World) (L2 : List Ch) hS => to_ct (w := w) (I := I) (L := L2) r pv r.pay.length hp1.is hS
  have hnd : decide (r.kind = r.kind ∧ r.gen = r.gen ∧ r.num = r.num ∧ r.pay = r.pay) = true := by simp
  have heq := fun (w : World) (L2 : List Ch) hS => rEqq_ct (w := w) (I := I) (L := L2) r r pv pu hp1.is hp2.is hp1.rds hp2.rds hS
  rw [hnd] at heq
  unfold recV at hto heq
  repeat' (first
    | ((with_reducible apply wp_region_plain (id := 4)); refine xv (ex_move (ev_at rfl)) ?_; refine xv (ex_move (ev_at rfl)) ?_; refine xv (ex_len (ev_at rfl) (slT rfl) (by first | assumption | exact IsSl.nil)) ?_; refine xv (ex_cmp (ev_at rfl) (ev_at rfl) (by first | exact lssT (by omega) | exact lssF (by omega) | rfl)) ?_; refine wl_nil ?_)
    | ((with_reducible apply wp_region_GS (id := 6) 11 (fun j => [0, 1, 2, 3, 4, 5, 6, 7, 8, 9, 10].contains j) mixed); rfl; exact hS; (clear hS; intro w hS); refine xp 0 rfl rfl (fun w => ex_move (ev_at rfl)) ?_; refine xp 1 rfl rfl (fun w => ex_move (ev_at rfl)) ?_; (first | refine xp 2 rfl rfl (fun w => ex_iaN (ev_at rfl) (ev_at rfl) (slT rfl) (szT rfl) (by first | assumption | exact IsSl.nil) (by omega)) ?_ | refine xp 2 rfl rfl (fun w => ex_ia (ev_at rfl) (ev_at rfl) (slT rfl) (szT rfl) (by first | assumption | exact IsSl.nil) (by omega) (by omega)) ?_); refine xr 3 hS rfl rfl (fun w X hS => ex_load (ev_at rfl) (ldEN (hS.rdSI hcs) hvi (m := i) hlt (kdT rfl) (szT rfl) hs1 rfl)) ?_; refine xp 5 rfl rfl (fun w => ex_move (ev_at rfl)) ?_; refine xp 6 rfl rfl (fun w => ex_move (ev_at rfl)) ?_; (first | refine xp 7 rfl rfl (fun w => ex_iaN (ev_at rfl) (ev_at rfl) (slT rfl) (szT rfl) (by first | assumption | exact IsSl.nil) (by omega)) ?_ | refine xp 7 rfl rfl (fun w => ex_ia (ev_at rfl) (ev_at rfl) (slT rfl) (szT rfl) (by first | assumption | exact IsSl.nil) (by omega) (by omega)) ?_); refine xr 8 hS rfl rfl (fun w X hS => ex_load (ev_at rfl) (ldEN (hS.rdSI hds) hui (m := i) hlt (kdT rfl) (szT rfl) hs2 rfl)) ?_; refine wg_loud 4 (by decide +kernel) rfl rfl (wp_callL (cbT rfl) (EvL.c (ev_at rfl) EvL.n) ?_); refine (hto _ _ hS).mono ?_; rintro e w ⟨rfl, hS⟩; refine ⟨_, rfl, ⟨gsT hS, wg_p (by simp only [lset] <;> rfl) ?_⟩⟩; refine wg_loud 9 (by decide +kernel) rfl rfl (wp_callL (cbT rfl) (EvL.c (ev_at rfl) (EvL.c (ev_at rfl) EvL.n)) ?_); refine (heq _ _ hS).mono ?_; rintro e w ⟨rfl, hS⟩; refine ⟨_, rfl, ⟨gsT hS, wg_p (by simp only [lset] <;> rfl) ?_⟩⟩; refine xp 10 rfl rfl (fun w => ex_not (ev_at rfl)) ?_; refine wg_end (by decide +kernel) ?_)
    | ((with_reducible apply wp_region_plain (id := 5)); refine xv (ex_move (ev_at rfl)) ?_; refine xv (ex_arith (ev_at rfl) (ev_const _ _) rfl (by first | exact IntWalk.i64_in _ (by omega) | rfl)) ?_; refine xv (ex_assign (ev_at rfl)) ?_; refine wl_nil ?_)
    | ((fail_if_success (with_reducible apply wp_region_plain)); (fail_if_success (with_reducible apply wp_region_GS)); go_step))
  exact loopEndM rfl (rs.length - (i + 1)) ⟨i + 1, rfl, rfl, by omega, hS⟩ (by omega)
theorem cutq600 {bs : List UInt8} {v : Value} {n : Nat} (hl : bs.length = n) (hv : IsSl v n) (hr : Rds I L v (bs.map byteV)) : ∃ m : Nat, (if (600 : Int) < (n : Int) then 600 else (n : Int)) = (m : Int) ∧ m ≤ n ∧ (bs.take 600).length = m ∧ IsSl (slv v 0 m 1) m ∧ Rds I L (slv v 0 m 1) ((bs.take 600).map byteV) := by
  obtain ⟨m, hm1, hm2, hm3⟩ : ∃ m : Nat, (if (600 : Int) < (n : Int) then 600 else (n : Int)) = (m : Int) ∧ m ≤ n ∧ (bs.take 600).length = m := by
    by_cases h : (600 : Int) < (n : Int)
    · exact ⟨600, by rw [if_pos h]; rfl, by omega, by simp; omega⟩
    · exact ⟨n, by rw [if_neg h], by omega, by simp; omega⟩
  have hv2 := hv.slv (l := 0) (h := m) (sz := 1) (by omega) hm2
  rw [Nat.sub_zero] at hv2
  refine ⟨m, hm1, hm2, hm3, hv2, ?_⟩
  have := Rds.part hr hv (l := 0) (h := m) (by omega) hm2
  rw [List.drop_zero, Nat.sub_zero] at this
  have e : bs.take m = bs.take 600 := by
    rw [List.take_eq_take_iff, hl]
    simp only [List.length_take] at hm3
    omega
  rwa [e] at this
structure PaysOk (I : Gh) (v : Value) (ps : List (List UInt8)) : Prop where
  is : IsSl v ps.length
  ex : ∃ cs, Rds I [] v cs ∧ ∀ (i : Nat) (p : List UInt8), ps[i]? = some p → ∃ u, cs[i]? = some u ∧ IsSl u p.length ∧ Rds I [] u (p.map byteV)
structure RunS where
  gen : Int
  num : Int
  ps : List (List UInt8)
  pv : Value
  os : List SecS
  ov : Value
  zs : List UInt8
  zv : Value
  cut : UInt8
def runCells (x : RunS) : List Value := [.int .i64 x.gen, .int .i64 x.num, x.pv, x.ov, x.zv, byteV x.cut]
structure RunOk (I : Gh) (x : RunS) : Prop where
  pays : PaysOk I x.pv x.ps
  secs : SecsOk I x.ov x.os
  zi : IsSl x.zv x.zs.length
  zr : Rds I [] x.zv (x.zs.map byteV)
theorem BytesL.set {I : Gh} {vs : List Value} {ls : List (List UInt8)} {u : Value} {l : List UInt8} (h : BytesL I vs ls) (hu : SlI I u l.length (l.map byteV)) (k : Nat) : BytesL I (vs.set k u) (ls.set k l) := by
  refine ⟨by simp [h.1], fun i u2 l2 h1 h2 => ?_⟩
  rw [List.getElem?_set] at h1 h2
  by_cases hk : k = i
  · subst hk
    rw [if_pos rfl] at h1 h2
    split at h1
    · split at h2
      · cases h1; cases h2; exact hu
      · cases h2
    · cases h1
  · rw [if_neg hk] at h1 h2
    exact h.2 i u2 l2 h1 h2
theorem mem_set {l : List (List UInt8)} {b : List UInt8} {k : Nat} (h : ∀ x ∈ l, x.length = 256) (hb : b.length = 256) : ∀ x ∈ l.set k b, x.length = 256 := by
  intro x hx
  rcases List.mem_or_eq_of_mem_set hx with h1 | h1
  · exact h x h1
  · rw [h1]; exact hb
set_option maxHeartbeats 16000000 in
theorem run_ct (x : RunS) (hx : RunOk I x) (hS : Sat w I L) :
    Calls Try.prog 38 #[.agg (runCells x).toArray] w fun e w' => ∃ J u ls, e = .returned u ∧ I.le J ∧ SecI J u ls ∧ ls.length ≤ 18 ∧ (∀ l ∈ ls, l.length = 256) ∧ (x.os = [] → x.cut = 0 → ls = runL x.gen x.num x.ps (min x.ps.length 6)) ∧ Sat w' J L := by
  obtain ⟨⟨pvi, cs, hcs, hcel⟩, ⟨ovi, ds, hds, hdel⟩, zvi, hzr⟩ := hx
  obtain ⟨gen, num, ps, pv, os, ov, zs, zv, cut⟩ := x
  simp only at pvi hcs hcel ovi hds hdel zvi hzr ⊢
  unfold runCells
  simp only
  go_enter Try.func38, Try.ntmps38
  repeat' (first
    | ((with_reducible apply wp_region_plain (id := 0)); refine wl_of rfl (wp_boxN (ev_at rfl) hS fun b1 w hS => wl_put (by simp only [lset] <;> rfl) ?_); refine xv (ex_assign (ev_const _ _)) ?_; refine wl_nil ?_)
    | ((with_reducible apply wp_region_plain (id := 1)); refine xv (ex_assign (ev_const _ _)) ?_; refine wl_nil ?_)
    | ((with_reducible apply wp_region_plain (id := 2)); refine xv (ex_assign (ev_const _ _)) ?_; refine wl_nil ?_)
    | ((fail_if_success (with_reducible apply wp_region_plain)); (fail_if_success (with_reducible apply wp_region_GS)); go_step))
  have hS := hS.nilRow 22 1
  refine wp_loopM [false, false, false, true, true, true, true, false, true, true, true, true, true, true, true, true, true, true, true, true, true, true, true, true, true, true, true, true, true, true, true, true, true, true, true, true, true, true, true, true, true, true, true, true, true, true, true, true] (fun n f w => ∃ (i : Nat) (J : Gh) (u : Value) (vs : List Value) (ls : List (List UInt8)), n = 6 - i ∧ f 3 = u ∧ f 4 = .int .i64 i ∧ i ≤ 6 ∧ i ≤ ps.length ∧ ls = runL gen num ps i ∧ ls.length ≤ 3 * i ∧ I.le J ∧ BytesL J vs ls ∧ (∀ l ∈ ls, l.length = 256) ∧ Sat w J (Row u 22 1 ls.length vs :: Cells b1 75 [.int .i64 gen, .int .i64 num, pv, ov, zv, byteV cut] :: L)) rfl 6 ⟨0, I, .slice none 0 0, [], [], rfl, rfl, rfl, by omega, by omega, rfl, by simp, Gh.le.refl I, BytesL.nil I, by simp, hS⟩ ?_
  clear hS
  rintro n f w ⟨i, J, u, vs, ls, rfl, h3, h4, hi, hi2, hls, hll, hJ, hvs, hl256, hS⟩
  simp only [havoc, Nat.reduceAdd, h3, h4]
  have hui := (hS.rowH (v := u)).1
  by_cases hA : i < ps.length ∧ i < 6
  case pos =>
    obtain ⟨hlt, hlt6⟩ := hA
    have hg : ps[i]? = some ps[i] := List.getElem?_eq_getElem hlt
    obtain ⟨pu, hcell, hpui, hpr⟩ := hcel _ _ hg
    have hrl : runL gen num ps (i + 1) = runL gen num ps i ++ (split ⟨0, gen, IntKind.i64.wrap (num + i), ps[i].take 600⟩).1 := by
      rw [runL]; simp [hg]
    generalize ps[i] = p at hcell hpui hpr hg hrl
    obtain ⟨m, hm1, hm2, hm3, hv2, hr2⟩ := cutq600 rfl hpui hpr
    have hsp := fun (w : World) (L2 : List Ch) hS => rsplit_ct (w := w) (I := J) (L := L2) ⟨0, gen, IntKind.i64.wrap (num + i), p.take 600⟩ (slv pu 0 m 1) (by rw [hm3]; exact hv2) (hr2.mono hJ).all hS
    obtain ⟨hs3, hs256⟩ := split_small (R := ⟨0, gen, IntKind.i64.wrap (num + i), p.take 600⟩) (by simp; omega)
    have herr : (split ⟨0, gen, IntKind.i64.wrap (num + i), p.take 600⟩).2 ≠ 0 → (split ⟨0, gen, IntKind.i64.wrap (num + i), p.take 600⟩).1 = [] := by
      intro h
      rw [split] at h ⊢
      split at h
      · rw [if_pos (by assumption)]
      · rw [if_neg (by assumption)]
        split at h
        · rw [if_pos (by assumption)]
        · exact absurd rfl h
    generalize split ⟨0, gen, IntKind.i64.wrap (num + i), p.take 600⟩ = X at hsp hs3 hs256 hrl herr
    obtain ⟨sl, se⟩ := X
    simp only at hsp hs3 hs256 hrl herr
    unfold recV at hsp
    by_cases hse : se = 0
    · subst hse
      repeat' (first
        | ((with_reducible apply wp_region_plain (id := 3)); refine xv (ex_move (ev_at rfl)) ?_; (first | refine xv (ex_fa (ev_at rfl) (flT rfl)) ?_ | refine xv (ex_faE (ev_at rfl) (flT rfl) (by assumption) (by assumption)) ?_); refine xv (ex_load (ev_at rfl) (ld1 hS (kdT rfl) rfl)) ?_; refine xv (ex_len (ev_at rfl) (slT rfl) (by first | assumption | exact IsSl.nil)) ?_; refine xv (ex_cmp (ev_at rfl) (ev_at rfl) (by first | exact lssT (by omega) | exact lssF (by omega) | rfl)) ?_; refine xv (ex_move (ev_at rfl)) ?_; (first | refine wl_skip rfl rfl (by simp only [lset] <;> rfl) ?_ | (refine xv (ex_move (ev_at rfl)) ?_)); (first | refine wl_skip rfl rfl (by simp only [lset] <;> rfl) ?_ | (refine xv (ex_cmp (ev_at rfl) (ev_const _ _) (by first | exact lssT (by omega) | exact lssF (by omega) | rfl)) ?_)); (first | refine xv (ex_pickT (ev_at rfl) (ev_at rfl)) ?_ | refine xv (ex_pickF (ev_at rfl) (ev_const _ _)) ?_ | refine xv (ex_pickAnd (ev_at rfl) (ev_at rfl) (ev_const _ _)) ?_); refine wl_nil ?_)
        | ((with_reducible apply wp_region_GS (id := 5) 26 (fun j => [0, 1, 2, 3, 4, 5, 6, 7, 8, 9, 10, 11, 12, 13, 14, 15, 16, 17, 18, 19, 21, 22, 23, 24, 25].contains j) mixed); rfl; exact hS; (clear hS; intro w hS); (first | refine xp 0 rfl rfl (fun w => ex_fa (ev_at rfl) (flT rfl)) ?_ | refine xp 0 rfl rfl (fun w => ex_faE (ev_at rfl) (flT rfl) (by assumption) (by assumption)) ?_); refine xr 1 hS rfl rfl (fun w X hS => ex_load (ev_at rfl) (ld1 hS (kdT rfl) rfl)) ?_; (first | refine xp 2 rfl rfl (fun w => ex_fa (ev_at rfl) (flT rfl)) ?_ | refine xp 2 rfl rfl (fun w => ex_faE (ev_at rfl) (flT rfl) (by assumption) (by assumption)) ?_); refine xr 3 hS rfl rfl (fun w X hS => ex_load (ev_at rfl) (ld1 hS (kdT rfl) rfl)) ?_; refine xp 4 rfl rfl (fun w => ex_move (ev_at rfl)) ?_; refine xp 5 rfl rfl (fun w => ex_arith (ev_at rfl) (ev_at rfl) rfl (by first | exact IntWalk.i64_in _ (by omega) | rfl)) ?_; (first | refine xp 6 rfl rfl (fun w => ex_fa (ev_at rfl) (flT rfl)) ?_ | refine xp 6 rfl rfl (fun w => ex_faE (ev_at rfl) (flT rfl) (by assumption) (by assumption)) ?_); refine xr 7 hS rfl rfl (fun w X hS => ex_load (ev_at rfl) (ld1 hS (kdT rfl) rfl)) ?_; refine xp 8 rfl rfl (fun w => ex_move (ev_at rfl)) ?_; (first | refine xp 9 rfl rfl (fun w => ex_iaN (ev_at rfl) (ev_at rfl) (slT rfl) (szT rfl) (by first | assumption | exact IsSl.nil) (by omega)) ?_ | refine xp 9 rfl rfl (fun w => ex_ia (ev_at rfl) (ev_at rfl) (slT rfl) (szT rfl) (by first | assumption | exact IsSl.nil) (by omega) (by omega)) ?_); refine xr 10 hS rfl rfl (fun w X hS => ex_load (ev_at rfl) (ldE1 (u := pu) ((hcs.mono hJ).rd0 hS) pvi (m := i) hlt (kdT rfl) (by simpa using hcell))) ?_; (first | refine xp 11 rfl rfl (fun w => ex_fa (ev_at rfl) (flT rfl)) ?_ | refine xp 11 rfl rfl (fun w => ex_faE (ev_at rfl) (flT rfl) (by assumption) (by assumption)) ?_); refine xr 12 hS rfl rfl (fun w X hS => ex_load (ev_at rfl) (ld1 hS (kdT rfl) rfl)) ?_; refine xp 13 rfl rfl (fun w => ex_move (ev_at rfl)) ?_; (first | refine xp 14 rfl rfl (fun w => ex_iaN (ev_at rfl) (ev_at rfl) (slT rfl) (szT rfl) (by first | assumption | exact IsSl.nil) (by omega)) ?_ | refine xp 14 rfl rfl (fun w => ex_ia (ev_at rfl) (ev_at rfl) (slT rfl) (szT rfl) (by first | assumption | exact IsSl.nil) (by omega) (by omega)) ?_); refine xr 15 hS rfl rfl (fun w X hS => ex_load (ev_at rfl) (ldE1 (u := pu) ((hcs.mono hJ).rd0 hS) pvi (m := i) hlt (kdT rfl) (by simpa using hcell))) ?_; refine xp 16 rfl rfl (fun w => ex_len (ev_at rfl) (slT rfl) (by first | assumption | exact IsSl.nil)) ?_; refine xp 17 rfl rfl (fun w => ex_min2r (r := (m : Int)) (ev_at rfl) (ev_const _ _) hm1) ?_; refine xp 18 rfl rfl (fun w => ex_sliceH (ev_at rfl) (ev_at rfl) (slT rfl) (szT rfl) (by first | assumption | exact IsSl.nil) (by omega) (by omega)) ?_; refine xp 19 rfl rfl (fun w => ex_buildS (plT rfl) (zeT rfl) (Fills.cons rfl (ev_at rfl) (by first | exact IsSl.cellsL (by assumption) | exact cellsL1 rfl | rfl) rfl rfl (Fills.cons rfl (ev_at rfl) (by first | exact IsSl.cellsL (by assumption) | exact cellsL1 rfl | rfl) rfl rfl (Fills.cons rfl (ev_at rfl) (by first | exact IsSl.cellsL (by assumption) | exact cellsL1 rfl | rfl) rfl rfl Fills.nil)))) ?_; refine wg_loud 20 (by decide +kernel) rfl rfl (wp_callL (cbT rfl) (EvL.c (ev_at rfl) EvL.n) ?_); refine (hsp _ _ hS).mono ?_; rintro e w ⟨J2, s1, rfl, hJ2, ⟨vs1, hs1, hb1⟩, hS⟩; refine ⟨_, rfl, ⟨gsF rfl, wg_p (by simp only [lset] <;> rfl) ?_⟩⟩; refine xp 21 rfl rfl (fun w => ex_move (ev_at rfl)) ?_; refine xp 22 rfl rfl (fun w => ex_extract (ev_at rfl) rfl) ?_; refine xp 23 rfl rfl (fun w => ex_extract (ev_at rfl) rfl) ?_; refine xp 24 rfl rfl (fun w => ex_assign (ev_at rfl)) ?_; refine xp 25 rfl rfl (fun w => ex_assign (ev_at rfl)) ?_; refine wg_end (by decide +kernel) ?_)
        | ((with_reducible apply wp_region_plain (id := 6)); refine xv (ex_move (ev_at rfl)) ?_; refine xv (ex_cmp (ev_at rfl) (ev_const _ _) (by first | exact eqlT (by omega) | exact eqlF (by omega) | rfl)) ?_; refine wl_nil ?_)
        | ((with_reducible apply wp_region_plain (id := 7)); refine xv (ex_move (ev_at rfl)) ?_; refine xv (ex_move (ev_at rfl)) ?_; refine wl_of rfl (wp_append (ev_at rfl) (ev_at rfl) (slT rfl) (szT rfl) (byT rfl) (zeT rfl) hS (srcI hS hs1 (by rw [hb1.1, Nat.mul_one])) (by omega) (by omega) rfl fun v47 w hS hv47 => wl_put (by simp only [lset] <;> rfl) ?_); refine xv (ex_assign (ev_at rfl)) ?_; refine wl_nil ?_; (try simp only [lset, splice, sub, List.take_succ_cons, List.take_zero, List.drop_succ_cons, List.drop_zero, List.nil_append, List.cons_append, List.length_cons, List.length_nil, Nat.reduceAdd, Nat.zero_add, rep_zero] at hS))
        | ((with_reducible apply wp_region_plain (id := 4)); refine xv (ex_move (ev_at rfl)) ?_; refine xv (ex_arith (ev_at rfl) (ev_const _ _) rfl (by first | exact IntWalk.i64_in _ (by omega) | rfl)) ?_; refine xv (ex_assign (ev_at rfl)) ?_; refine wl_nil ?_)
        | ((fail_if_success (with_reducible apply wp_region_plain)); (fail_if_success (with_reducible apply wp_region_GS)); go_step))
      refine loopEndM rfl (6 - (i + 1)) ⟨i + 1, J2, _, _, ls ++ sl, rfl, rfl, rfl, by omega, by omega, by rw [hrl, hls], by simp; omega, hJ.trans hJ2, (hvs.mono hJ2).app hb1, ?_, by rw [List.length_append]; exact hS⟩ (by omega)
      intro l hl
      rcases List.mem_append.1 hl with h | h
      · exact hl256 l h
      · exact hs256 l h
    · repeat' (first
        | ((with_reducible apply wp_region_plain (id := 3)); refine xv (ex_move (ev_at rfl)) ?_; (first | refine xv (ex_fa (ev_at rfl) (flT rfl)) ?_ | refine xv (ex_faE (ev_at rfl) (flT rfl) (by assumption) (by assumption)) ?_); refine xv (ex_load (ev_at rfl) (ld1 hS (kdT rfl) rfl)) ?_; refine xv (ex_len (ev_at rfl) (slT rfl) (by first | assumption | exact IsSl.nil)) ?_; refine xv (ex_cmp (ev_at rfl) (ev_at rfl) (by first | exact lssT (by omega) | exact lssF (by omega) | rfl)) ?_; refine xv (ex_move (ev_at rfl)) ?_; (first | refine wl_skip rfl rfl (by simp only [lset] <;> rfl) ?_ | (refine xv (ex_move (ev_at rfl)) ?_)); (first | refine wl_skip rfl rfl (by simp only [lset] <;> rfl) ?_ | (refine xv (ex_cmp (ev_at rfl) (ev_const _ _) (by first | exact lssT (by omega) | exact lssF (by omega) | rfl)) ?_)); (first | refine xv (ex_pickT (ev_at rfl) (ev_at rfl)) ?_ | refine xv (ex_pickF (ev_at rfl) (ev_const _ _)) ?_ | refine xv (ex_pickAnd (ev_at rfl) (ev_at rfl) (ev_const _ _)) ?_); refine wl_nil ?_)
        | ((with_reducible apply wp_region_GS (id := 5) 26 (fun j => [0, 1, 2, 3, 4, 5, 6, 7, 8, 9, 10, 11, 12, 13, 14, 15, 16, 17, 18, 19, 21, 22, 23, 24, 25].contains j) mixed); rfl; exact hS; (clear hS; intro w hS); (first | refine xp 0 rfl rfl (fun w => ex_fa (ev_at rfl) (flT rfl)) ?_ | refine xp 0 rfl rfl (fun w => ex_faE (ev_at rfl) (flT rfl) (by assumption) (by assumption)) ?_); refine xr 1 hS rfl rfl (fun w X hS => ex_load (ev_at rfl) (ld1 hS (kdT rfl) rfl)) ?_; (first | refine xp 2 rfl rfl (fun w => ex_fa (ev_at rfl) (flT rfl)) ?_ | refine xp 2 rfl rfl (fun w => ex_faE (ev_at rfl) (flT rfl) (by assumption) (by assumption)) ?_); refine xr 3 hS rfl rfl (fun w X hS => ex_load (ev_at rfl) (ld1 hS (kdT rfl) rfl)) ?_; refine xp 4 rfl rfl (fun w => ex_move (ev_at rfl)) ?_; refine xp 5 rfl rfl (fun w => ex_arith (ev_at rfl) (ev_at rfl) rfl (by first | exact IntWalk.i64_in _ (by omega) | rfl)) ?_; (first | refine xp 6 rfl rfl (fun w => ex_fa (ev_at rfl) (flT rfl)) ?_ | refine xp 6 rfl rfl (fun w => ex_faE (ev_at rfl) (flT rfl) (by assumption) (by assumption)) ?_); refine xr 7 hS rfl rfl (fun w X hS => ex_load (ev_at rfl) (ld1 hS (kdT rfl) rfl)) ?_; refine xp 8 rfl rfl (fun w => ex_move (ev_at rfl)) ?_; (first | refine xp 9 rfl rfl (fun w => ex_iaN (ev_at rfl) (ev_at rfl) (slT rfl) (szT rfl) (by first | assumption | exact IsSl.nil) (by omega)) ?_ | refine xp 9 rfl rfl (fun w => ex_ia (ev_at rfl) (ev_at rfl) (slT rfl) (szT rfl) (by first | assumption | exact IsSl.nil) (by omega) (by omega)) ?_); refine xr 10 hS rfl rfl (fun w X hS => ex_load (ev_at rfl) (ldE1 (u := pu) ((hcs.mono hJ).rd0 hS) pvi (m := i) hlt (kdT rfl) (by simpa using hcell))) ?_; (first | refine xp 11 rfl rfl (fun w => ex_fa (ev_at rfl) (flT rfl)) ?_ | refine xp 11 rfl rfl (fun w => ex_faE (ev_at rfl) (flT rfl) (by assumption) (by assumption)) ?_); refine xr 12 hS rfl rfl (fun w X hS => ex_load (ev_at rfl) (ld1 hS (kdT rfl) rfl)) ?_; refine xp 13 rfl rfl (fun w => ex_move (ev_at rfl)) ?_; (first | refine xp 14 rfl rfl (fun w => ex_iaN (ev_at rfl) (ev_at rfl) (slT rfl) (szT rfl) (by first | assumption | exact IsSl.nil) (by omega)) ?_ | refine xp 14 rfl rfl (fun w => ex_ia (ev_at rfl) (ev_at rfl) (slT rfl) (szT rfl) (by first | assumption | exact IsSl.nil) (by omega) (by omega)) ?_); refine xr 15 hS rfl rfl (fun w X hS => ex_load (ev_at rfl) (ldE1 (u := pu) ((hcs.mono hJ).rd0 hS) pvi (m := i) hlt (kdT rfl) (by simpa using hcell))) ?_; refine xp 16 rfl rfl (fun w => ex_len (ev_at rfl) (slT rfl) (by first | assumption | exact IsSl.nil)) ?_; refine xp 17 rfl rfl (fun w => ex_min2r (r := (m : Int)) (ev_at rfl) (ev_const _ _) hm1) ?_; refine xp 18 rfl rfl (fun w => ex_sliceH (ev_at rfl) (ev_at rfl) (slT rfl) (szT rfl) (by first | assumption | exact IsSl.nil) (by omega) (by omega)) ?_; refine xp 19 rfl rfl (fun w => ex_buildS (plT rfl) (zeT rfl) (Fills.cons rfl (ev_at rfl) (by first | exact IsSl.cellsL (by assumption) | exact cellsL1 rfl | rfl) rfl rfl (Fills.cons rfl (ev_at rfl) (by first | exact IsSl.cellsL (by assumption) | exact cellsL1 rfl | rfl) rfl rfl (Fills.cons rfl (ev_at rfl) (by first | exact IsSl.cellsL (by assumption) | exact cellsL1 rfl | rfl) rfl rfl Fills.nil)))) ?_; refine wg_loud 20 (by decide +kernel) rfl rfl (wp_callL (cbT rfl) (EvL.c (ev_at rfl) EvL.n) ?_); refine (hsp _ _ hS).mono ?_; rintro e w ⟨J2, s1, rfl, hJ2, ⟨vs1, hs1, hb1⟩, hS⟩; refine ⟨_, rfl, ⟨gsF rfl, wg_p (by simp only [lset] <;> rfl) ?_⟩⟩; refine xp 21 rfl rfl (fun w => ex_move (ev_at rfl)) ?_; refine xp 22 rfl rfl (fun w => ex_extract (ev_at rfl) rfl) ?_; refine xp 23 rfl rfl (fun w => ex_extract (ev_at rfl) rfl) ?_; refine xp 24 rfl rfl (fun w => ex_assign (ev_at rfl)) ?_; refine xp 25 rfl rfl (fun w => ex_assign (ev_at rfl)) ?_; refine wg_end (by decide +kernel) ?_)
        | ((with_reducible apply wp_region_plain (id := 6)); refine xv (ex_move (ev_at rfl)) ?_; refine xv (ex_cmp (ev_at rfl) (ev_const _ _) (by first | exact eqlT (by omega) | exact eqlF (by omega) | rfl)) ?_; refine wl_nil ?_)
        | ((with_reducible apply wp_region_plain (id := 4)); refine xv (ex_move (ev_at rfl)) ?_; refine xv (ex_arith (ev_at rfl) (ev_const _ _) rfl (by first | exact IntWalk.i64_in _ (by omega) | rfl)) ?_; refine xv (ex_assign (ev_at rfl)) ?_; refine wl_nil ?_)
        | ((fail_if_success (with_reducible apply wp_region_plain)); (fail_if_success (with_reducible apply wp_region_GS)); go_step))
      exact loopEndM rfl (6 - (i + 1)) ⟨i + 1, J2, u, vs, ls, rfl, rfl, rfl, by omega, by omega, by rw [hrl, herr hse, List.append_nil, hls], by omega, hJ.trans hJ2, hvs.mono hJ2, hl256, hS⟩ (by omega)
  have him : i = min ps.length 6 := by omega
  rw [him] at hls
  generalize hN : ls.length = N at hll hS hui
  have hN18 : N ≤ 18 := by omega
  obtain ⟨ls0, hls0⟩ : ∃ x, x = ls := ⟨_, rfl⟩
  have hls1 := hls0.trans hls
  have hE2 : i < ps.length → i = 6 := by omega
  clear h3 h4
  by_cases hC : i < ps.length
  all_goals
    repeat' (first
      | ((with_reducible apply wp_region_plain (id := 3)); refine xv (ex_move (ev_at rfl)) ?_; (first | refine xv (ex_fa (ev_at rfl) (flT rfl)) ?_ | refine xv (ex_faE (ev_at rfl) (flT rfl) (by assumption) (by assumption)) ?_); refine xv (ex_load (ev_at rfl) (ld1 hS (kdT rfl) rfl)) ?_; refine xv (ex_len (ev_at rfl) (slT rfl) (by first | assumption | exact IsSl.nil)) ?_; refine xv (ex_cmp (ev_at rfl) (ev_at rfl) (by first | exact lssT (by omega) | exact lssF (by omega) | rfl)) ?_; refine xv (ex_move (ev_at rfl)) ?_; (first | refine wl_skip rfl rfl (by simp only [lset] <;> rfl) ?_ | (refine xv (ex_move (ev_at rfl)) ?_)); (first | refine wl_skip rfl rfl (by simp only [lset] <;> rfl) ?_ | (refine xv (ex_cmp (ev_at rfl) (ev_const _ _) (by first | exact lssT (by omega) | exact lssF (by omega) | rfl)) ?_)); (first | refine xv (ex_pickT (ev_at rfl) (ev_at rfl)) ?_ | refine xv (ex_pickF (ev_at rfl) (ev_const _ _)) ?_ | refine xv (ex_pickAnd (ev_at rfl) (ev_at rfl) (ev_const _ _)) ?_); refine wl_nil ?_)
      | ((with_reducible apply wp_region_plain (id := 8)); refine xv (ex_assign (ev_const _ _)) ?_; refine wl_nil ?_)
      | ((fail_if_success (with_reducible apply wp_region_plain)); (fail_if_success (with_reducible apply wp_region_GS)); go_step))
    refine wp_loopM [false, false, false, false, false, false, false, true, false, false, false, false, false, false, false, false, false, false, false, false, false, false, false, false, false, false, false, false, false, false, false, false, false, false, false, false, false, false, false, false, false, false, false, false, false, false, false, false, true, true, true, true, true, true, true, true, true, true, true, true, true, true, true, true, true, true, true, true, true, true, true, true, true, true, true, true, true, true, true, true, true, true, true, true, true, true] (fun n f w => ∃ (j : Nat) (J : Gh) (vs : List Value) (ls : List (List UInt8)), n = 4 - j ∧ f 7 = .int .i64 j ∧ j ≤ 4 ∧ j ≤ os.length ∧ j ≤ zs.length ∧ ls.length = N ∧ (os = [] → ls = ls0) ∧ I.le J ∧ BytesL J vs ls ∧ (∀ l ∈ ls, l.length = 256) ∧ Sat w J (Row u 22 1 N vs :: Cells b1 75 [.int .i64 gen, .int .i64 num, pv, ov, zv, byteV cut] :: L)) rfl 4 ⟨0, J, vs, ls, rfl, rfl, by omega, by omega, by omega, hN, fun _ => hls0.symm, hJ, hvs, hl256, hS⟩ ?_
    clear hS hvs hl256 hJ
    clear him hN hls0
    rintro n f w ⟨j, J, vs, ls, rfl, h7, hj, hj2, hj3, hll2, hsame, hJ, hvs, hl256, hS⟩
    simp only [havoc, Nat.reduceAdd, h7]
    by_cases hB : j < os.length ∧ j < zs.length ∧ j < 4
    case pos =>
      obtain ⟨hB1, hB2, hB3⟩ := hB
      have hg : os[j]? = some os[j] := List.getElem?_eq_getElem hB1
      have hos : os ≠ [] := by intro h; rw [h] at hB1; simp at hB1
      obtain ⟨hsub, hok⟩ := hdel _ _ hg
      generalize os[j] = x at hsub hok hg
      obtain ⟨z, hz⟩ : ∃ z, zs[j]? = some z := ⟨_, List.getElem?_eq_getElem hB2⟩
      have hsc := fun (w : World) (L2 : List Ch) hS => sector_ct (w := w) (I := J) (L := L2) x (hok.mono hJ) hS
      have hcl : (secCells x).length = 16 := rfl
      generalize secCells x = sc at hsub hsc hcl
      by_cases hN0 : N = 0
      · repeat' (first
          | ((with_reducible apply wp_region_plain (id := 9)); refine xv (ex_move (ev_at rfl)) ?_; (first | refine xv (ex_fa (ev_at rfl) (flT rfl)) ?_ | refine xv (ex_faE (ev_at rfl) (flT rfl) (by assumption) (by assumption)) ?_); refine xv (ex_load (ev_at rfl) (ld1 hS (kdT rfl) rfl)) ?_; refine xv (ex_len (ev_at rfl) (slT rfl) (by first | assumption | exact IsSl.nil)) ?_; refine xv (ex_cmp (ev_at rfl) (ev_at rfl) (by first | exact lssT (by omega) | exact lssF (by omega) | rfl)) ?_; refine xv (ex_move (ev_at rfl)) ?_; (first | refine wl_skip rfl rfl (by simp only [lset] <;> rfl) ?_ | (refine xv (ex_move (ev_at rfl)) ?_)); (first | refine wl_skip rfl rfl (by simp only [lset] <;> rfl) ?_ | ((first | refine xv (ex_fa (ev_at rfl) (flT rfl)) ?_ | refine xv (ex_faE (ev_at rfl) (flT rfl) (by assumption) (by assumption)) ?_))); (first | refine wl_skip rfl rfl (by simp only [lset] <;> rfl) ?_ | (refine xv (ex_load (ev_at rfl) (ld1 hS (kdT rfl) rfl)) ?_)); (first | refine wl_skip rfl rfl (by simp only [lset] <;> rfl) ?_ | (refine xv (ex_len (ev_at rfl) (slT rfl) (by first | assumption | exact IsSl.nil)) ?_)); (first | refine wl_skip rfl rfl (by simp only [lset] <;> rfl) ?_ | (refine xv (ex_cmp (ev_at rfl) (ev_at rfl) (by first | exact lssT (by omega) | exact lssF (by omega) | rfl)) ?_)); (first | refine xv (ex_pickT (ev_at rfl) (ev_at rfl)) ?_ | refine xv (ex_pickF (ev_at rfl) (ev_const _ _)) ?_ | refine xv (ex_pickAnd (ev_at rfl) (ev_at rfl) (ev_const _ _)) ?_); refine xv (ex_move (ev_at rfl)) ?_; (first | refine wl_skip rfl rfl (by simp only [lset] <;> rfl) ?_ | (refine xv (ex_move (ev_at rfl)) ?_)); (first | refine wl_skip rfl rfl (by simp only [lset] <;> rfl) ?_ | (refine xv (ex_cmp (ev_at rfl) (ev_const _ _) (by first | exact lssT (by omega) | exact lssF (by omega) | rfl)) ?_)); (first | refine xv (ex_pickT (ev_at rfl) (ev_at rfl)) ?_ | refine xv (ex_pickF (ev_at rfl) (ev_const _ _)) ?_ | refine xv (ex_pickAnd (ev_at rfl) (ev_at rfl) (ev_const _ _)) ?_); refine wl_nil ?_)
          | ((with_reducible apply wp_region_plain (id := 11)); refine xv (ex_move (ev_at rfl)) ?_; refine xv (ex_len (ev_at rfl) (slT rfl) (by first | assumption | exact IsSl.nil)) ?_; refine xv (ex_cmp (ev_at rfl) (ev_const _ _) (by first | exact gtrT (by omega) | exact gtrF (by omega) | rfl)) ?_; refine wl_nil ?_)
          | ((with_reducible apply wp_region_plain (id := 10)); refine xv (ex_move (ev_at rfl)) ?_; refine xv (ex_arith (ev_at rfl) (ev_const _ _) rfl (by first | exact IntWalk.i64_in _ (by omega) | rfl)) ?_; refine xv (ex_assign (ev_at rfl)) ?_; refine wl_nil ?_)
          | ((fail_if_success (with_reducible apply wp_region_plain)); (fail_if_success (with_reducible apply wp_region_GS)); go_step))
        exact loopEndM rfl (4 - (j + 1)) ⟨j + 1, J, vs, ls, rfl, rfl, by omega, by omega, by omega, hll2, hsame, hJ, hvs, hl256, hS⟩ (by omega)
      · have hmod : ((z.toNat % N : Nat) : Int) = (z.toNat : Int) % (N : Int) := Int.natCast_emod _ _
        have hzl := z.toNat_lt
        have hml := Nat.mod_lt z.toNat (show N > 0 by omega)
        obtain ⟨k, hk⟩ : ∃ k : Nat, k = z.toNat % N := ⟨_, rfl⟩
        rw [← hk] at hmod hml
        repeat' (first
          | ((with_reducible apply wp_region_plain (id := 9)); refine xv (ex_move (ev_at rfl)) ?_; (first | refine xv (ex_fa (ev_at rfl) (flT rfl)) ?_ | refine xv (ex_faE (ev_at rfl) (flT rfl) (by assumption) (by assumption)) ?_); refine xv (ex_load (ev_at rfl) (ld1 hS (kdT rfl) rfl)) ?_; refine xv (ex_len (ev_at rfl) (slT rfl) (by first | assumption | exact IsSl.nil)) ?_; refine xv (ex_cmp (ev_at rfl) (ev_at rfl) (by first | exact lssT (by omega) | exact lssF (by omega) | rfl)) ?_; refine xv (ex_move (ev_at rfl)) ?_; (first | refine wl_skip rfl rfl (by simp only [lset] <;> rfl) ?_ | (refine xv (ex_move (ev_at rfl)) ?_)); (first | refine wl_skip rfl rfl (by simp only [lset] <;> rfl) ?_ | ((first | refine xv (ex_fa (ev_at rfl) (flT rfl)) ?_ | refine xv (ex_faE (ev_at rfl) (flT rfl) (by assumption) (by assumption)) ?_))); (first | refine wl_skip rfl rfl (by simp only [lset] <;> rfl) ?_ | (refine xv (ex_load (ev_at rfl) (ld1 hS (kdT rfl) rfl)) ?_)); (first | refine wl_skip rfl rfl (by simp only [lset] <;> rfl) ?_ | (refine xv (ex_len (ev_at rfl) (slT rfl) (by first | assumption | exact IsSl.nil)) ?_)); (first | refine wl_skip rfl rfl (by simp only [lset] <;> rfl) ?_ | (refine xv (ex_cmp (ev_at rfl) (ev_at rfl) (by first | exact lssT (by omega) | exact lssF (by omega) | rfl)) ?_)); (first | refine xv (ex_pickT (ev_at rfl) (ev_at rfl)) ?_ | refine xv (ex_pickF (ev_at rfl) (ev_const _ _)) ?_ | refine xv (ex_pickAnd (ev_at rfl) (ev_at rfl) (ev_const _ _)) ?_); refine xv (ex_move (ev_at rfl)) ?_; (first | refine wl_skip rfl rfl (by simp only [lset] <;> rfl) ?_ | (refine xv (ex_move (ev_at rfl)) ?_)); (first | refine wl_skip rfl rfl (by simp only [lset] <;> rfl) ?_ | (refine xv (ex_cmp (ev_at rfl) (ev_const _ _) (by first | exact lssT (by omega) | exact lssF (by omega) | rfl)) ?_)); (first | refine xv (ex_pickT (ev_at rfl) (ev_at rfl)) ?_ | refine xv (ex_pickF (ev_at rfl) (ev_const _ _)) ?_ | refine xv (ex_pickAnd (ev_at rfl) (ev_at rfl) (ev_const _ _)) ?_); refine wl_nil ?_)
          | ((with_reducible apply wp_region_plain (id := 11)); refine xv (ex_move (ev_at rfl)) ?_; refine xv (ex_len (ev_at rfl) (slT rfl) (by first | assumption | exact IsSl.nil)) ?_; refine xv (ex_cmp (ev_at rfl) (ev_const _ _) (by first | exact gtrT (by omega) | exact gtrF (by omega) | rfl)) ?_; refine wl_nil ?_)
          | ((with_reducible apply wp_region_GS (id := 12) 18 (fun j => [0, 1, 2, 3, 4, 5, 6, 7, 8, 9, 10, 11, 12, 13, 14, 15, 16].contains j) mixed); rfl; exact hS; (clear hS; intro w hS); refine xp 0 rfl rfl (fun w => ex_move (ev_at rfl)) ?_; (first | refine xp 1 rfl rfl (fun w => ex_fa (ev_at rfl) (flT rfl)) ?_ | refine xp 1 rfl rfl (fun w => ex_faE (ev_at rfl) (flT rfl) (by assumption) (by assumption)) ?_); refine xr 2 hS rfl rfl (fun w X hS => ex_load (ev_at rfl) (ld1 hS (kdT rfl) rfl)) ?_; refine xp 3 rfl rfl (fun w => ex_move (ev_at rfl)) ?_; (first | refine xp 4 rfl rfl (fun w => ex_iaN (ev_at rfl) (ev_at rfl) (slT rfl) (szT rfl) (by first | assumption | exact IsSl.nil) (by omega)) ?_ | refine xp 4 rfl rfl (fun w => ex_ia (ev_at rfl) (ev_at rfl) (slT rfl) (szT rfl) (by first | assumption | exact IsSl.nil) (by omega) (by omega)) ?_); refine xr 5 hS rfl rfl (fun w X hS => ex_load (ev_at rfl) (ldE1 (u := byteV z) ((hzr.mono hJ).rd0 hS) zvi (m := j) hB2 (kdT rfl) (byteGet hz (by omega)))) ?_; refine xp 6 rfl rfl (fun w => ex_convII (ev_at rfl) (inT rfl) (kdT rfl) (by first | exact IntWalk.i64_in _ (by omega) | rfl)) ?_; refine xp 7 rfl rfl (fun w => ex_move (ev_at rfl)) ?_; refine xp 8 rfl rfl (fun w => ex_len (ev_at rfl) (slT rfl) (by first | assumption | exact IsSl.nil)) ?_; refine xp 9 rfl rfl (fun w => ex_remTo (r := (k : Int)) (ev_at rfl) (ev_at rfl) (by omega) (by omega) hmod.symm) ?_; (first | refine xp 10 rfl rfl (fun w => ex_fa (ev_at rfl) (flT rfl)) ?_ | refine xp 10 rfl rfl (fun w => ex_faE (ev_at rfl) (flT rfl) (by assumption) (by assumption)) ?_); refine xr 11 hS rfl rfl (fun w X hS => ex_load (ev_at rfl) (ld1 hS (kdT rfl) rfl)) ?_; refine xp 12 rfl rfl (fun w => ex_move (ev_at rfl)) ?_; (first | refine xp 13 rfl rfl (fun w => ex_iaN (ev_at rfl) (ev_at rfl) (slT rfl) (szT rfl) (by first | assumption | exact IsSl.nil) (by omega)) ?_ | refine xp 13 rfl rfl (fun w => ex_ia (ev_at rfl) (ev_at rfl) (slT rfl) (szT rfl) (by first | assumption | exact IsSl.nil) (by omega) (by omega)) ?_); refine xr 14 hS rfl rfl (fun w X hS => ex_load (ev_at rfl) (ldEN ((hds.mono hJ).rd0 hS) ovi (m := j) hB1 (kdT rfl) (szT rfl) hsub hcl)) ?_; refine wg_loud 15 (by decide +kernel) rfl rfl (wp_callL (cbT rfl) (EvL.c (ev_at rfl) EvL.n) ?_); refine (hsc _ _ hS).mono ?_; rintro e w ⟨u2, bs, rfl, hbl, hu2i, hS⟩; refine ⟨_, rfl, ⟨gsT hS, wg_p (by simp only [lset] <;> rfl) ?_⟩⟩; (first | refine xp 16 rfl rfl (fun w => ex_iaN (ev_at rfl) (ev_at rfl) (slT rfl) (szT rfl) (by first | assumption | exact IsSl.nil) (by omega)) ?_ | refine xp 16 rfl rfl (fun w => ex_ia (ev_at rfl) (ev_at rfl) (slT rfl) (szT rfl) (by first | assumption | exact IsSl.nil) (by omega) (by omega)) ?_); refine wg_loud 17 (by decide +kernel) rfl rfl (wp_storeE1 (v := u) (u := u2) (ev_at rfl) (ev_at rfl) hS (szT rfl) (by rw [hvs.1, hll2]; omega) hu2i.one fun w hS => ⟨gsF rfl, wg_n ?_⟩); refine wg_end (by decide +kernel) ?_; (try simp only [lset, splice, sub, List.take_succ_cons, List.take_zero, List.drop_succ_cons, List.drop_zero, List.nil_append, List.cons_append, List.length_cons, List.length_nil, Nat.reduceAdd, Nat.zero_add, rep_zero] at hS))
          | ((with_reducible apply wp_region_plain (id := 10)); refine xv (ex_move (ev_at rfl)) ?_; refine xv (ex_arith (ev_at rfl) (ev_const _ _) rfl (by first | exact IntWalk.i64_in _ (by omega) | rfl)) ?_; refine xv (ex_assign (ev_at rfl)) ?_; refine wl_nil ?_)
          | ((fail_if_success (with_reducible apply wp_region_plain)); (fail_if_success (with_reducible apply wp_region_GS)); go_step))
        obtain ⟨J2, hJ2, hS, hu2⟩ := hS.freezeRow
        exact loopEndM rfl (4 - (j + 1)) ⟨j + 1, J2, _, ls.set k bs, rfl, rfl, by omega, by omega, by omega, by rw [List.length_set]; exact hll2, fun h => absurd h hos, hJ.trans hJ2, (hvs.mono hJ2).set (by rw [hbl]; exact hu2) k, mem_set hl256 hbl, by simpa using hS⟩ (by omega)
    obtain ⟨q, hq, hqN, hq0⟩ : ∃ q : Nat, (if (N : Int) < (cut.toNat : Int) % 8 then (N : Int) else (cut.toNat : Int) % 8) = (q : Int) ∧ q ≤ N ∧ (cut = 0 → q = 0) := by
      by_cases h : (N : Int) < (cut.toNat : Int) % 8
      · refine ⟨N, by rw [if_pos h], by omega, fun e => ?_⟩
        subst e
        have : (UInt8.toNat 0) = 0 := rfl
        omega
      · refine ⟨cut.toNat % 8, by rw [if_neg h]; omega, by omega, fun e => ?_⟩
        subst e
        rfl
    have hB1 : ¬ (j < os.length) ∨ (j < os.length ∧ ¬ (j < zs.length)) ∨ (j < os.length ∧ j < zs.length ∧ ¬ (j < 4)) := by omega
    have hcl8 := cut.toNat_lt
    rcases hB1 with h | ⟨h, h'⟩ | ⟨h, h', h''⟩
    all_goals
      repeat' (first
        | ((with_reducible apply wp_region_plain (id := 9)); refine xv (ex_move (ev_at rfl)) ?_; (first | refine xv (ex_fa (ev_at rfl) (flT rfl)) ?_ | refine xv (ex_faE (ev_at rfl) (flT rfl) (by assumption) (by assumption)) ?_); refine xv (ex_load (ev_at rfl) (ld1 hS (kdT rfl) rfl)) ?_; refine xv (ex_len (ev_at rfl) (slT rfl) (by first | assumption | exact IsSl.nil)) ?_; refine xv (ex_cmp (ev_at rfl) (ev_at rfl) (by first | exact lssT (by omega) | exact lssF (by omega) | rfl)) ?_; refine xv (ex_move (ev_at rfl)) ?_; (first | refine wl_skip rfl rfl (by simp only [lset] <;> rfl) ?_ | (refine xv (ex_move (ev_at rfl)) ?_)); (first | refine wl_skip rfl rfl (by simp only [lset] <;> rfl) ?_ | ((first | refine xv (ex_fa (ev_at rfl) (flT rfl)) ?_ | refine xv (ex_faE (ev_at rfl) (flT rfl) (by assumption) (by assumption)) ?_))); (first | refine wl_skip rfl rfl (by simp only [lset] <;> rfl) ?_ | (refine xv (ex_load (ev_at rfl) (ld1 hS (kdT rfl) rfl)) ?_)); (first | refine wl_skip rfl rfl (by simp only [lset] <;> rfl) ?_ | (refine xv (ex_len (ev_at rfl) (slT rfl) (by first | assumption | exact IsSl.nil)) ?_)); (first | refine wl_skip rfl rfl (by simp only [lset] <;> rfl) ?_ | (refine xv (ex_cmp (ev_at rfl) (ev_at rfl) (by first | exact lssT (by omega) | exact lssF (by omega) | rfl)) ?_)); (first | refine xv (ex_pickT (ev_at rfl) (ev_at rfl)) ?_ | refine xv (ex_pickF (ev_at rfl) (ev_const _ _)) ?_ | refine xv (ex_pickAnd (ev_at rfl) (ev_at rfl) (ev_const _ _)) ?_); refine xv (ex_move (ev_at rfl)) ?_; (first | refine wl_skip rfl rfl (by simp only [lset] <;> rfl) ?_ | (refine xv (ex_move (ev_at rfl)) ?_)); (first | refine wl_skip rfl rfl (by simp only [lset] <;> rfl) ?_ | (refine xv (ex_cmp (ev_at rfl) (ev_const _ _) (by first | exact lssT (by omega) | exact lssF (by omega) | rfl)) ?_)); (first | refine xv (ex_pickT (ev_at rfl) (ev_at rfl)) ?_ | refine xv (ex_pickF (ev_at rfl) (ev_const _ _)) ?_ | refine xv (ex_pickAnd (ev_at rfl) (ev_at rfl) (ev_const _ _)) ?_); refine wl_nil ?_)
        | ((with_reducible apply wp_region_plain (id := 13)); refine xv (ex_move (ev_at rfl)) ?_; refine xv (ex_move (ev_at rfl)) ?_; refine xv (ex_len (ev_at rfl) (slT rfl) (by first | assumption | exact IsSl.nil)) ?_; (first | refine xv (ex_fa (ev_at rfl) (flT rfl)) ?_ | refine xv (ex_faE (ev_at rfl) (flT rfl) (by assumption) (by assumption)) ?_); refine xv (ex_load (ev_at rfl) (ld1 hS (kdT rfl) rfl)) ?_; refine xv (ex_convII (ev_at rfl) (inT rfl) (kdT rfl) (by first | exact IntWalk.i64_in _ (by omega) | rfl)) ?_; refine xv (ex_rem (ev_at rfl) (ev_const _ _) (by first | decide | omega) (by omega)) ?_; refine xv (ex_move (ev_at rfl)) ?_; refine xv (ex_len (ev_at rfl) (slT rfl) (by first | assumption | exact IsSl.nil)) ?_; refine xv (ex_min2r (r := (q : Int)) (ev_at rfl) (ev_at rfl) hq) ?_; refine xv (ex_arith (s := ((N - q : Nat) : Int)) (ev_at rfl) (ev_at rfl) rfl (by rw [IntWalk.i64_in _ (by omega)]; omega)) ?_; refine xv (ex_sliceH (ev_at rfl) (ev_at rfl) (slT rfl) (szT rfl) (by first | assumption | exact IsSl.nil) (by omega) (by omega)) ?_; refine xv (ex_assign (ev_at rfl)) ?_; refine wl_nil ?_)
        | ((fail_if_success (with_reducible apply wp_region_plain)); (fail_if_success (with_reducible apply wp_region_GS)); go_step))
      refine end1 (by first | exact .inl rfl | exact .inr rfl) rfl (ResL.rt rfl ResL.rn) ?_
      obtain ⟨J2, hJ2, hS, hu⟩ := hS.freezeRow
      refine ⟨J2, _, ls.take (N - q), rfl, hJ.trans hJ2, SecI.take ⟨vs, by rw [hll2]; exact hu, hvs.mono hJ2⟩ (by omega), by simp; omega, fun l hl => hl256 l (List.mem_of_mem_take hl), fun h1 h2 => ?_, hS.drop⟩
      rw [hq0 h2, Nat.sub_zero, List.take_of_length_le (by omega), hsame h1, hls1]
end
end Go.Proofs.Try
