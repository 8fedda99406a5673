/- Equality of devices, over the plain models. -/
import Derived.Test.YthbakafjhgcieaaDC13
namespace Go.Proofs.Try
open Go.RowKit Go.SL Go.DK
set_option linter.unusedSimpArgs false
set_option linter.unusedVariables false
/-- What is stored is not zero, and in range. -/
structure Nz (D : DS) : Prop where
  nz : ∀ p ∈ D.dur, p.2 ≠ zSec
  rng : ∀ p ∈ D.dur, 0 ≤ p.1 ∧ p.1 < D.n
def DurNz (n : Int) (dur : List (Int × List UInt8)) : Prop := ∀ p ∈ dur, p.2 ≠ zSec ∧ 0 ≤ p.1 ∧ p.1 < n
theorem kvSet_mem2 {β : Type} {kv : List (Int × β)} {k : Int} {v : β} {p : Int × β} (h : p ∈ kvSet kv k v) : p ∈ kv ∨ p = (k, v) := by
  induction kv with
  | nil => simp [kvSet] at h; exact .inr h
  | cons q r ih =>
    obtain ⟨j, u⟩ := q
    simp only [kvSet] at h
    split at h
    · rename_i e; subst e
      rcases List.mem_cons.1 h with h | h
      · exact .inr h
      · exact .inl (List.mem_cons_of_mem _ h)
    · rcases List.mem_cons.1 h with h | h
      · subst h; exact .inl (by simp)
      · rcases ih h with h | h
        · exact .inl (List.mem_cons_of_mem _ h)
        · exact .inr h
theorem DurNz.put {n : Int} {dur : List (Int × List UInt8)} (h : DurNz n dur) {k : Int} (hk : 0 ≤ k ∧ k < n) (b : List UInt8) : DurNz n (put dur k b) := by
  intro p hp
  unfold DK.put at hp
  split at hp
  · exact h p (kvDel_mem hp)
  · rename_i hb
    rcases kvSet_mem2 hp with h1 | h1
    · exact h p h1
    · subst h1; exact ⟨hb, hk⟩
theorem DurNz.flush {n : Int} : ∀ (l : List (Int × List UInt8)) (dur : List (Int × List UInt8)), DurNz n dur → (∀ p ∈ l, 0 ≤ p.1 ∧ p.1 < n) → DurNz n (l.foldl (fun d p => DK.put d p.1 p.2) dur)
  | [], _, h, _ => h
  | p :: r, dur, h, hl => DurNz.flush r _ (h.put (hl p (by simp)) _) (fun q hq => hl q (by simp [hq]))
theorem DurNz.settle {n : Int} : ∀ (l : List (Int × List UInt8)) (dur : List (Int × List UInt8)) (ch : List UInt8), DurNz n dur → (∀ p ∈ l, 0 ≤ p.1 ∧ p.1 < n) → DurNz n (DK.settle dur ch l)
  | [], _, _, h, _ => h
  | p :: r, dur, ch, h, hl => DurNz.settle r _ _ (h.put (hl p (by simp)) _) (fun q hq => hl q (by simp [hq]))
theorem nz_write {D : DS} (h : DurNz D.n D.dur) (k : Int) (b : List UInt8) : DurNz (D.write k b).1.n (D.write k b).1.dur := by
  unfold DS.write
  (repeat' split) <;> exact h
theorem nz_op {D : DS} {R : RS} {m : Nat} (hr : Rel D R m) (h : DurNz D.n D.dur) (o : OpS) : DurNz (o.d D).n (o.d D).dur := by
  unfold OpS.d
  split
  · exact nz_write h _ _
  split
  · unfold DS.flush
    split
    · exact h
    split
    · exact h
    · exact DurNz.flush _ _ h hr.keys
  split
  · exact h
  split
  · exact h
  split
  · unfold DS.restart
    split
    · exact h
    · exact DurNz.settle _ _ _ h hr.keys
  split
  · exact h
  split
  · unfold DS.damage
    split
    · exact h
    split
    · exact h
    · rename_i hk _
      exact h.put (Decidable.not_not.1 hk) _
  split
  · exact nz_write h _ _
  · exact h
theorem kvGet_of_mem {β : Type} {kv : List (Int × β)} {p : Int × β} (hn : (kv.map Prod.fst).Nodup) (h : p ∈ kv) : kvGet kv p.1 = some p.2 := by
  induction kv with
  | nil => cases h
  | cons q r ih =>
    obtain ⟨j, u⟩ := q
    simp only [List.map_cons, List.nodup_cons] at hn
    rcases List.mem_cons.1 h with h1 | h1
    · subst h1; simp [kvGet]
    · simp only [kvGet]
      split
      · rename_i e; subst e
        exact absurd (show p.1 ∈ r.map Prod.fst from List.mem_map.2 ⟨p, h1, rfl⟩) hn.1
      · exact ih hn.2 h1
theorem keys_sub {a b : List (Int × List UInt8)} (ha : DurOk a) (h : ∀ p ∈ a, kvGet b p.1 = some p.2) : a.map Prod.fst ⊆ b.map Prod.fst := by
  intro k hk
  obtain ⟨p, hp, rfl⟩ := List.mem_map.1 hk
  exact List.mem_map.2 ⟨_, kvGet_mem (h p hp), rfl⟩
theorem kvEq_iff {n : Int} {a b : List (Int × List UInt8)} (ha : DurOk a) (hb : DurOk b) (na : DurNz n a) (nb : DurNz n b) : kvEq a b ↔ ∀ i : Nat, (i : Int) < n → dget a i = dget b i := by
  constructor
  · rintro ⟨hlen, h⟩ i hi
    cases hg : kvGet a i with
    | some v =>
      have h1 := h _ (kvGet_mem hg)
      simp only at h1
      simp [dget, hg, h1]
    | none =>
      have : kvGet b i = none := by
        rw [kvGet_none]
        intro hk
        have hni := kvGet_none.1 hg
        have hnd : ((i : Int) :: a.map Prod.fst).Nodup := List.nodup_cons.2 ⟨hni, ha.keys⟩
        have hsub : ((i : Int) :: a.map Prod.fst) ⊆ b.map Prod.fst := by
          intro k hk2
          rcases List.mem_cons.1 hk2 with rfl | hk2
          · exact hk
          · exact keys_sub ha h hk2
        have := List.Nodup.length_le_of_subset hnd hsub
        simp at this
        omega
      simp [dget, hg, this]
  · intro h
    have key : ∀ {a b : List (Int × List UInt8)}, DurOk a → DurNz n a → (∀ i : Nat, (i : Int) < n → dget a i = dget b i) → ∀ p ∈ a, kvGet b p.1 = some p.2 := by
      intro a b ha na h p hp
      obtain ⟨h1, h2, h3⟩ := na p hp
      have h4 := h p.1.toNat (by omega)
      rw [show ((p.1.toNat : Nat) : Int) = p.1 from by omega] at h4
      have h5 := kvGet_of_mem ha.keys hp
      cases hg : kvGet b p.1 with
      | some v =>
        simp only [dget, hg, h5, Option.getD_some] at h4
        rw [h4]
      | none =>
        simp only [dget, hg, h5, Option.getD_some, Option.getD_none] at h4
        exact absurd h4 h1
    have k1 := key ha na h
    have k2 := key hb nb (fun i hi => (h i hi).symm)
    refine ⟨?_, k1⟩
    have l1 := List.Nodup.length_le_of_subset ha.keys (keys_sub ha k1)
    have l2 := List.Nodup.length_le_of_subset hb.keys (keys_sub hb k2)
    simp at l1 l2
    omega
theorem same_iff {D E : DS} {R S : RS} {m k : Nat} (hr : Rel D R m) (hs : Rel E S k) (nd : DurNz D.n D.dur) (ne : DurNz E.n E.dur) : R.same S = true ↔ DEq D E := by
  have l1 := hr.dur.len
  have l2 := hs.dur.len
  simp only [RS.same, decide_eq_true_eq, hr.wr, hs.wr, hr.down, hs.down, hr.lim, hs.lim]
  constructor
  · rintro ⟨h1, h2, h3, h4⟩
    have hn : D.n = E.n := by rw [← l1, ← l2, h1]
    have hld : D.limd = E.limd := by
      cases hd : D.limd <;> cases he : E.limd <;> simp [hd, he] at h4 ⊢
      · have := hs.lim0 he; omega
      · have := hr.lim0 hd; omega
    refine ⟨hld, ?_, hn, h3, ?_, h2⟩
    · intro hd
      rw [hd] at hld
      simpa [hd, ← hld] using h4
    · refine (kvEq_iff hr.ok.durOk hs.ok.durOk nd (hn ▸ ne)).2 fun i hi => ?_
      have e1 := hr.dur.eq i (by omega)
      have e2 := hs.dur.eq i (by omega)
      rw [h1, e2] at e1
      exact (Option.some.inj e1).symm
  · intro h
    refine ⟨?_, h.pend, h.down, ?_⟩
    · apply List.ext_getElem?
      intro i
      rcases Nat.lt_or_ge i R.dur.length with hi | hi
      · rw [hr.dur.eq i hi, hs.dur.eq i (by have := h.n; omega)]
        congr 1
        exact (kvEq_iff hr.ok.durOk hs.ok.durOk nd (h.n ▸ ne)).1 h.dur i (by omega)
      · rw [List.getElem?_eq_none hi, List.getElem?_eq_none (by have := h.n; omega)]
    · rw [h.limd]
      split
      · rename_i he; exact h.lim (h.limd.trans he)
      · rfl
theorem durLen {D : DS} (hD : D.Ok) (h : DurNz D.n D.dur) : D.dur.length ≤ 4096 := by
  have hn := hD.n
  have : D.dur.map Prod.fst ⊆ (List.range 4096).map (fun (i : Nat) => (i : Int)) := by
    intro k hk
    obtain ⟨p, hp, rfl⟩ := List.mem_map.1 hk
    obtain ⟨-, h2, h3⟩ := h p hp
    exact List.mem_map.2 ⟨p.1.toNat, List.mem_range.2 (by omega), by omega⟩
  have := List.Nodup.length_le_of_subset hD.keys this
  simpa using this
end Go.Proofs.Try
