/- SHA-256: contracts (7): Sum, SumHalf. -/
import Derived.Test.YtjklnjpmjdbogaaS6
import Derived.Test.YtjklnjpmjdbogaaRecA
namespace Go.Proofs.Try
open Go.RowKit Go.SL Go.SH
set_option maxRecDepth 100000
set_option linter.unusedSimpArgs false
set_option linter.unusedVariables false
section
variable {w : World} {I : Gh} {L : List Ch}
theorem all_rest : ∀ (k : Nat) (s : List W32) (l : List UInt8), l.length = k → (SH.all s l).2.length < 64 := by
  intro k
  induction k using Nat.strongRecOn with
  | ind k ih =>
    intro s l hl
    by_cases h : 64 ≤ l.length
    · rw [all_step h]; exact ih (l.length - 64) (by omega) _ _ (by simp)
    · rw [all_small (by omega)]; simp only; omega
theorem shaLen (bs : List UInt8) : (SH.sha bs).length = 32 := RC.sha_len bs
set_option maxHeartbeats 4000000 in
theorem sum_ct (v : Value) (bs : List UInt8) (n : Nat) (hv : IsSl v n) (hl : bs.length = n) (hr : Rds I L v (bs.map byteV)) (hb : n ≤ 1099511627) (hS : Sat w I L) :
    Calls Try.prog 63 #[v] w fun e w' => e = .returned (.agg ((SH.sha bs).map byteV).toArray) ∧ Sat w' I L := by
  have hst : (SH.all SH.init bs).1.length = 8 := run_len _ _ rfl
  have hrest := all_rest _ SH.init bs rfl
  have hsum : ((SH.all (SH.all SH.init bs).1 ((SH.all SH.init bs).2 ++ pad bs.length)).1.flatMap bytesW) = SH.sha bs := by
    rw [SH.sha, all_append (s := SH.init) (pad bs.length) _ SH.init bs rfl]
  have hdl : ((SH.sha bs).map byteV).length = 32 := by simp [shaLen]
  generalize hdv : (SH.sha bs).map byteV = dv at hdl
  have hdo : Oc dv := by rw [← hdv]; exact byteV_Oc _
  generalize hA : SH.all SH.init bs = R at hst hrest hsum
  obtain ⟨st, lf⟩ := R
  simp only at hst hrest hsum
  go_enter Try.func63, Try.ntmps63
  repeat' (first
    | ((with_reducible apply wp_region_plain (id := 0)); refine wl_of rfl (wp_alloc hS (zeT rfl) fun b2 w hS => wl_put (by simp only [lset] <;> rfl) ?_); refine wl_nil ?_)
    | ((with_reducible apply wp_region_plain (id := 1)); refine wl_of rfl (wp_callL (cbT rfl) EvL.n ?_); refine (new_ct hS).mono ?_; rintro e w ⟨b, rfl, hS⟩; refine ⟨_, rfl, wl_put (by simp only [lset] <;> rfl) ?_⟩; refine xv (ex_assign (ev_at rfl)) ?_; refine wl_nil ?_)
    | ((with_reducible apply wp_region_plain (id := 2)); refine xv (ex_move (ev_at rfl)) ?_; refine xv (ex_move (ev_at rfl)) ?_; refine wl_of rfl (wp_callL (cbT rfl) (EvL.c (ev_at rfl) (EvL.c (ev_at rfl) EvL.n)) ?_); refine (write_ct b SH.init (.slice none 0 0) v [] bs 0 n rfl (SlI.nil _) hv hl hr.le (by simp only [List.length_nil]; omega) (by omega) hS).mono ?_; rintro e w ⟨rfl, J, rv', hJ, hrv', hS⟩; rw [List.nil_append, hA] at hS hrv'; refine ⟨_, rfl, wl_put (by simp only [lset] <;> rfl) ?_⟩; refine wl_nil ?_)
    | ((with_reducible apply wp_region_plain (id := 3)); refine xv (ex_move (ev_at rfl)) ?_; refine wl_of rfl (wp_callL (cbT rfl) (EvL.c (ev_at rfl) EvL.n) ?_); refine (hsum_ct b st rv' lf (0 + n) hst hrv' (by omega) (by omega) hS).mono ?_; rintro e w ⟨rfl, hS⟩; rw [Nat.zero_add, ← hl, hsum, hdv]; refine ⟨_, rfl, wl_put (by simp only [lset] <;> rfl) ?_⟩; refine wl_of rfl (wp_storeW (vs := dv) (ev_at rfl) (ev_at rfl) hS (szT rfl) hdl rfl hdo fun w hS => wl_put0 ?_); refine wl_nil ?_; (try simp only [lset, splice, sub, List.take_succ_cons, List.take_zero, List.drop_succ_cons, List.drop_zero, List.nil_append, List.cons_append, List.length_cons, List.length_nil, Nat.reduceAdd, Nat.zero_add, rep_zero] at hS))
    | ((fail_if_success (with_reducible apply wp_region_plain)); (fail_if_success (with_reducible apply wp_region_GS)); go_step))
  refine end1 (by first | exact .inl rfl | exact .inr rfl) rfl (ResL.rc rfl (ldW hS (kdT rfl) (szT rfl) hdl) ResL.rn) ?_
  exact ⟨rfl, (hS.drop.drop).anti hJ⟩
set_option maxHeartbeats 4000000 in
theorem sumHalf_ct (v : Value) (bs : List UInt8) (n : Nat) (hv : IsSl v n) (hl : bs.length = n) (hr : Rds I L v (bs.map byteV)) (hb : n ≤ 1099511627) (hS : Sat w I L) :
    Calls Try.prog 58 #[v] w fun e w' => e = .returned (.agg (((SH.sha bs).take 16).map byteV).toArray) ∧ Sat w' I L := by
  have hdl : ((SH.sha bs).map byteV).length = 32 := by simp [shaLen]
  have hhl : (((SH.sha bs).take 16).map byteV).length = 16 := by simp [shaLen]
  have hsb : sub ((SH.sha bs).map byteV) 0 16 = ((SH.sha bs).take 16).map byteV := by simp [sub, List.map_take]
  generalize hhv : ((SH.sha bs).take 16).map byteV = hw at hhl hsb
  have hho : Oc hw := by rw [← hhv]; exact byteV_Oc _
  have hct := fun (w : World) (L2 : List Ch) (hr2 : Rds I L2 v (bs.map byteV)) hS => sum_ct (w := w) (I := I) (L := L2) v bs n hv hl hr2 hb hS
  generalize hdv : (SH.sha bs).map byteV = dv at hdl hsb hct
  have hdo : Oc dv := by rw [← hdv]; exact byteV_Oc _
  go_enter Try.func58, Try.ntmps58
  repeat' (first
    | ((with_reducible apply wp_region_plain (id := 0)); refine wl_of rfl (wp_alloc hS (zeT rfl) fun b2 w hS => wl_put (by simp only [lset] <;> rfl) ?_); refine wl_nil ?_)
    | ((with_reducible apply wp_region_plain (id := 1)); refine xv (ex_move (ev_at rfl)) ?_; refine wl_of rfl (wp_callL (cbT rfl) (EvL.c (ev_at rfl) EvL.n) ?_); refine (hct _ _ hr.le hS).mono ?_; rintro e w ⟨rfl, hS⟩; refine ⟨_, rfl, wl_put (by simp only [lset] <;> rfl) ?_⟩; refine wl_of rfl (wp_alloc hS (zeT rfl) fun b3 w hS => wl_put (by simp only [lset] <;> rfl) ?_); refine wl_of rfl (wp_storeW (vs := dv) (ev_at rfl) (ev_at rfl) hS (szT rfl) hdl rfl hdo fun w hS => wl_put0 ?_); refine wl_nil ?_; (try simp only [lset, splice, sub, List.take_succ_cons, List.take_zero, List.drop_succ_cons, List.drop_zero, List.nil_append, List.cons_append, List.length_cons, List.length_nil, Nat.reduceAdd, Nat.zero_add, rep_zero] at hS))
    | ((with_reducible apply wp_region_plain (id := 2)); refine xv (ex_sliceAH (ev_at rfl) (ev_const _ _) (arT rfl) (szT rfl) (by omega) (by omega)) ?_; refine xv (ex_arrPtr (m := 16) (ev_at rfl) (arT rfl) (IsSl.lit (p := ⟨b3, 0, none⟩) (by omega)) (by omega) (by omega)) ?_; refine xv (ex_load (ev_at rfl) (ldNs hS (kdT rfl) (szT rfl) hsb hhl (by omega))) ?_; refine wl_of rfl (wp_storeW (vs := hw) (ev_at rfl) (ev_at rfl) hS (szT rfl) hhl rfl hho fun w hS => wl_put0 ?_); refine wl_nil ?_; (try simp only [lset, splice, sub, List.take_succ_cons, List.take_zero, List.drop_succ_cons, List.drop_zero, List.nil_append, List.cons_append, List.length_cons, List.length_nil, Nat.reduceAdd, Nat.zero_add, rep_zero] at hS))
    | ((fail_if_success (with_reducible apply wp_region_plain)); (fail_if_success (with_reducible apply wp_region_GS)); go_step))
  refine end1 (by first | exact .inl rfl | exact .inr rfl) rfl (ResL.rc rfl (ldW hS (kdT rfl) (szT rfl) hhl) ResL.rn) ?_
  exact ⟨rfl, hS.drop.drop⟩
end
end Go.Proofs.Try
