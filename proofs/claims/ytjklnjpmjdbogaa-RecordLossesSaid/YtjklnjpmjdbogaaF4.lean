/- The law's own functions: contracts (3): collisions; RecordTampering. -/
import Derived.Test.YtjklnjpmjdbogaaF2
import Derived.Test.YtjklnjpmjdbogaaRecA
namespace Go.Proofs.Try
open Go.RowKit Go.SL Go.SH Go.RC
set_option maxRecDepth 100000
set_option linter.unusedSimpArgs false
set_option linter.unusedVariables false
section
variable {w : World} {I : Gh} {L : List Ch}
theorem rdCellsTake {b n m : Nat} {E : TypeId} {cs : List Value} {rep : Ch → List Ch} (hS : Sat w I L) [hi : HasCells L b E cs rep] (k : Nat) : RdS w (.slice (some ⟨b, 0, none⟩) n m) (cs.take k) := by
  intro p n' c' e
  injection e with e1 _ _
  injection e1 with e1
  subst e1
  have := Rd.of_block (k := 0) (hS.blkH (hi := hi))
  rw [List.drop_zero] at this
  exact this.take k
theorem ex_neqStrT {a : Act} {dst : Option Tmp} {x y : Operand} {t ty yt : TypeId} {pos : String} {af : Array Edge} {gd : Option (Nat × Bool)} {l r : List UInt8} (h : l ≠ r) (hx : a.eval x = .string ⟨l.toArray⟩) (hy : a.eval y = .string ⟨r.toArray⟩) : Ex Try.prog a ⟨dst, .binOp .neq t x y yt, ty, pos, af, gd⟩ w (.bool true) := by
  have := ex_neqStrL (P := Try.prog) (dst := dst) (t := t) (ty := ty) (pos := pos) (af := af) (gd := gd) (w := w) (yt := yt) hx hy
  rwa [show (l != r) = true from by rw [bne_iff_ne]; exact h] at this
set_option maxHeartbeats 8000000 in
theorem collideT_ct (v u : Value) (a b : List UInt8) (n : Nat) (hv : IsSl v n) (hu : IsSl u n) (hal : a.length = n) (hbl : b.length = n) (hb : n ≤ 1099511627) (h1 : Rds I L v (a.map byteV)) (h2 : Rds I L u (b.map byteV)) (hc : RC.collide a b) (hS : Sat w I L) :
    Calls Try.prog 26 #[v, u] w fun e w' => e = .returned (.bool true) ∧ Sat w' I L := by
  obtain ⟨hne, heq⟩ := hc
  have hs1 := fun (w : World) (L2 : List Ch) (h1 : Rds I L2 v (a.map byteV)) hS => rsum_ct (w := w) (I := I) (L := L2) v a n hv hal h1 hb hS
  have hs2 := fun (w : World) (L2 : List Ch) (h2 : Rds I L2 u (b.map byteV)) hS => rsum_ct (w := w) (I := I) (L := L2) u b n hu hbl h2 hb hS
  have hl1 := shaLen a
  have hl2 := shaLen b
  generalize SH.sha a = A at heq hs1 hl1
  generalize SH.sha b = B at heq hs2 hl2
  have hm1 : (A.map byteV).length = 32 := by simp [hl1]
  have hm2 : (B.map byteV).length = 32 := by simp [hl2]
  have ht1 : (A.take 16).length = 16 := by simp [hl1]
  have ht2 : (B.take 16).length = 16 := by simp [hl2]
  go_enter Try.func26, Try.ntmps26
  repeat' (first
    | ((with_reducible apply wp_region_plain (id := 0)); refine xv (ex_assign (ev_const _ _)) ?_; refine wl_nil ?_)
    | ((with_reducible apply wp_region_plain (id := 1)); refine xv (ex_move (ev_at rfl)) ?_; refine wl_of rfl (wp_callL (cbT rfl) (EvL.c (ev_at rfl) EvL.n) ?_); refine (hs1 _ _ h1.le hS).mono ?_; rintro e w ⟨rfl, hS⟩; refine ⟨_, rfl, wl_put (by simp only [lset] <;> rfl) ?_⟩; refine xv (ex_move (ev_at rfl)) ?_; refine wl_of rfl (wp_callL (cbT rfl) (EvL.c (ev_at rfl) EvL.n) ?_); refine (hs2 _ _ h2.le hS).mono ?_; rintro e w ⟨rfl, hS⟩; refine ⟨_, rfl, wl_put (by simp only [lset] <;> rfl) ?_⟩; refine wl_of rfl (wp_alloc hS (zeT rfl) fun b5 w hS => wl_put (by simp only [lset] <;> rfl) ?_); refine wl_of rfl (wp_alloc hS (zeT rfl) fun b6 w hS => wl_put (by simp only [lset] <;> rfl) ?_); refine wl_of rfl (wp_storeW (vs := A.map byteV) (ev_at rfl) (ev_at rfl) hS (szT rfl) hm1 rfl (byteV_Oc _) fun w hS => wl_put0 ?_); refine wl_of rfl (wp_storeW (vs := B.map byteV) (ev_at rfl) (ev_at rfl) hS (szT rfl) hm2 rfl (byteV_Oc _) fun w hS => wl_put0 ?_); refine wl_nil ?_; (try simp only [lset, splice, sub, List.take_succ_cons, List.take_zero, List.drop_succ_cons, List.drop_zero, List.nil_append, List.cons_append, List.length_cons, List.length_nil, Nat.reduceAdd, Nat.zero_add, rep_zero] at hS))
    | ((with_reducible apply wp_region_GS (id := 2) 13 (fun j => [0, 1, 2, 3, 4, 5, 6, 7, 8, 9, 10, 11, 12].contains j) mixed); rfl; exact hS; (clear hS; intro w hS); refine xp 0 rfl rfl (fun w => ex_move (ev_at rfl)) ?_; refine xr 1 hS rfl rfl (fun w X hS => ex_bytesStr (bs := a) (ev_at rfl) (slT rfl) (inT rfl) (unT rfl) (h1.rd hS) (by rw [hal]; exact hv)) ?_; refine xp 2 rfl rfl (fun w => ex_move (ev_at rfl)) ?_; refine xr 3 hS rfl rfl (fun w X hS => ex_bytesStr (bs := b) (ev_at rfl) (slT rfl) (inT rfl) (unT rfl) (h2.rd hS) (by rw [hbl]; exact hu)) ?_; refine xp 4 rfl rfl (fun w => ex_neqStrT hne (ev_at rfl) (ev_at rfl)) ?_; refine xp 5 rfl rfl (fun w => ex_move (ev_at rfl)) ?_; (first | refine wg_skip 6 (by decide +kernel) rfl rfl (fun _ _ _ h => h) rfl (by simp only [lset] <;> rfl) ?_ | (refine xp 6 rfl rfl (fun w => ex_sliceAH (ev_at rfl) (ev_const _ _) (arT rfl) (szT rfl) (by omega) (by omega)) ?_)); (first | refine wg_skip 7 (by decide +kernel) rfl rfl (fun _ _ _ h => h) rfl (by simp only [lset] <;> rfl) ?_ | (refine xr 7 hS rfl rfl (fun w X hS => ex_bytesStr (bs := A.take 16) (ev_at rfl) (slT rfl) (inT rfl) (unT rfl) (by rw [List.map_take]; exact rdCellsTake hS 16) (by rw [ht1]; exact IsSl.lit (by decide))) ?_)); (first | refine wg_skip 8 (by decide +kernel) rfl rfl (fun _ _ _ h => h) rfl (by simp only [lset] <;> rfl) ?_ | (refine xp 8 rfl rfl (fun w => ex_sliceAH (ev_at rfl) (ev_const _ _) (arT rfl) (szT rfl) (by omega) (by omega)) ?_)); (first | refine wg_skip 9 (by decide +kernel) rfl rfl (fun _ _ _ h => h) rfl (by simp only [lset] <;> rfl) ?_ | (refine xr 9 hS rfl rfl (fun w X hS => ex_bytesStr (bs := A.take 16) (ev_at rfl) (slT rfl) (inT rfl) (unT rfl) (by rw [heq, List.map_take]; exact rdCellsTake hS 16) (by rw [ht1]; exact IsSl.lit (by decide))) ?_)); (first | refine wg_skip 10 (by decide +kernel) rfl rfl (fun _ _ _ h => h) rfl (by simp only [lset] <;> rfl) ?_ | (refine xp 10 rfl rfl (fun w => ex_eqlStrR (ev_at rfl) (ev_at rfl)) ?_)); (first | refine xp 11 rfl rfl (fun w => ex_pickT (ev_at rfl) (ev_at rfl)) ?_ | refine xp 11 rfl rfl (fun w => ex_pickF (ev_at rfl) (ev_const _ _)) ?_ | refine xp 11 rfl rfl (fun w => ex_pickAnd (ev_at rfl) (ev_at rfl) (ev_const _ _)) ?_); refine xp 12 rfl rfl (fun w => ex_assign (ev_at rfl)) ?_; refine wg_end (by decide +kernel) ?_)
    | ((fail_if_success (with_reducible apply wp_region_plain)); (fail_if_success (with_reducible apply wp_region_GS)); go_step))
  refine end1 (by first | exact .inl rfl | exact .inr rfl) rfl (ResL.rt rfl ResL.rn) ?_
  exact ⟨rfl, hS.drop.drop⟩
end
end Go.Proofs.Try
