/- The device and the reference's: a relation between the two plain models, kept by every operation. -/
import Derived.Test.YthbakafjhgcieaaRModel
set_option linter.unusedVariables false
set_option linter.unusedSimpArgs false
namespace Go.DK
open Go.SL

theorem dget_put {dur : List (Int × List UInt8)} (h : DurOk dur) (k j : Int) (b : List UInt8) : dget (put dur k b) j = if j = k then b else dget dur j := by
  unfold put dget
  split
  · rename_i hb
    rw [kvGet_del dur h.keys]
    split
    · subst hb; rfl
    · rfl
  · rw [kvGet_set]
    split <;> rfl
theorem dget_flush : ∀ (l : List (Int × List UInt8)) (dur : List (Int × List UInt8)) (k : Int), DurOk dur → (∀ p ∈ l, p.2.length = 256) → dget (l.foldl (fun d p => put d p.1 p.2) dur) k = (lastOf l k).getD (dget dur k)
  | [], _, _, _, _ => rfl
  | (j, b) :: r, dur, k, h, hl => by
    rw [List.foldl_cons, dget_flush r _ k (h.put _ (hl (j, b) (by simp))) (fun q hq => hl q (by simp [hq])), dget_put h]
    simp only [lastOf]
    cases lastOf r k with
    | some u => rfl
    | none =>
      simp only [Option.none_or, Option.getD_none]
      by_cases hk : j = k
      · subst hk; simp
      · simp [hk, Ne.symm hk]
/-- The durable sectors of the two agree. -/
structure DurRel (n : Int) (dur : List (Int × List UInt8)) (rd : List (List UInt8)) : Prop where
  len : (rd.length : Int) = n
  eq : ∀ i : Nat, i < rd.length → rd[i]? = some (dget dur i)
theorem DurRel.get {n : Int} {dur : List (Int × List UInt8)} {rd : List (List UInt8)} (h : DurRel n dur rd) {k : Int} (h0 : 0 ≤ k ∧ k < n) : rd[k.toNat]?.getD [] = dget dur k := by
  have h2 := h.len
  rw [h.eq k.toNat (by omega)]
  simp only [Option.getD_some]
  congr 1; omega
theorem DurRel.put {n : Int} {dur : List (Int × List UInt8)} {rd : List (List UInt8)} (h : DurRel n dur rd) (hd : DurOk dur) {k : Int} (h0 : 0 ≤ k ∧ k < n) (b : List UInt8) : DurRel n (put dur k b) (rset rd k b) := by
  refine ⟨by rw [rset, List.length_set]; exact h.len, ?_⟩
  intro i hi
  rw [rset, List.length_set] at hi
  have h2 := h.len
  rw [rset, List.getElem?_set, dget_put hd]
  by_cases hk : (i : Int) = k
  · rw [if_pos (by omega), if_pos hk, if_pos (by omega)]
  · rw [if_neg (by omega), if_neg hk]; exact h.eq i hi
theorem DurRel.settle {n : Int} : ∀ (l : List (Int × List UInt8)) (dur : List (Int × List UInt8)) (rd : List (List UInt8)) (ch : List UInt8), DurRel n dur rd → DurOk dur → (∀ p ∈ l, p.2.length = 256) → (∀ p ∈ l, 0 ≤ p.1 ∧ p.1 < n) → DurRel n (settle dur ch l) (rsettle rd ch l)
  | [], _, _, _, h, _, _, _ => h
  | p :: r, dur, rd, ch, h, hd, hl, hk => by
    simp only [DK.settle, rsettle]
    rw [h.get (hk p (by simp))]
    exact DurRel.settle r _ _ _ (h.put hd (hk p (by simp)) _) (hd.put _ (fate_len (hd.get _) (hl p (by simp)) _)) (fun q hq => hl q (by simp [hq])) (fun q hq => hk q (by simp [hq]))
structure Rel (D : DS) (R : RS) (m : Nat) : Prop where
  dur : DurRel D.n D.dur R.dur
  wr : R.wr = D.pend
  down : R.down = D.down
  ops : R.ops = D.ops
  lim : R.lim = if D.limd then D.lim else -1
  lim0 : D.limd = true → 0 ≤ D.lim ∧ D.lim ≤ 9223372036854775807
  ok : D.Ok
  few : D.pend.length ≤ m
  keys : ∀ p ∈ D.pend, 0 ≤ p.1 ∧ p.1 < D.n
theorem Rel.mono {D : DS} {R : RS} {m k : Nat} (h : Rel D R m) (hk : m ≤ k) : Rel D R k := { h with few := Nat.le_trans h.few hk }
theorem Rel.rok {D : DS} {R : RS} {m : Nat} (h : Rel D R m) (hm : m ≤ 1000) : R.Ok := by
  have h1 := h.dur.len
  have h2 := h.ok.n
  refine ⟨by omega, ?_, ?_, ?_, ?_⟩
  · intro b hb
    obtain ⟨i, hi, e⟩ := List.getElem_of_mem hb
    have := h.dur.eq i hi
    rw [List.getElem?_eq_getElem hi, e] at this
    injection this with this
    rw [this]; exact h.ok.dget_len _
  · rw [h.wr]; exact h.ok.pend
  · rw [h.wr]; exact Nat.le_trans h.few hm
  · rw [h.wr, h.dur.len]; exact h.keys
theorem Rel.limR {D : DS} {R : RS} {m : Nat} (h : Rel D R m) : -1 ≤ R.lim ∧ R.lim ≤ 9223372036854775807 := by
  rw [h.lim]
  split
  · rename_i hl; have := h.lim0 hl; omega
  · omega
theorem Rel.vis {D : DS} {R : RS} {m : Nat} (h : Rel D R m) {k : Int} (hk : 0 ≤ k ∧ k < D.n) : R.vis k = vis D k := by
  rw [RS.vis, DK.vis, h.wr, h.dur.get hk]
theorem up_in' {z : Int} (h : -9223372036854775808 ≤ z ∧ z ≤ 9223372036854775807) : up z = z := IntWalk.i64_in z h
theorem Rel.crash {D : DS} {R : RS} {m : Nat} (h : Rel D R m) (hc : D.crash = true) : R.counted = ({ R with down := true }, true) ∧ Rel { D with down := true } { R with down := true } m := by
  simp only [DS.crash, Bool.and_eq_true, beq_iff_eq] at hc
  refine ⟨?_, ?_⟩
  · have : R.lim = 0 := by rw [h.lim, if_pos hc.1]; exact hc.2
    simp [RS.counted, this]
  · exact ⟨h.dur, h.wr, rfl, h.ops, h.lim, h.lim0, ⟨h.ok.n, h.ok.keys, h.ok.dur, h.ok.pend⟩, h.few, h.keys⟩
theorem Rel.tick {D : DS} {R : RS} {m : Nat} (h : Rel D R m) (hc : D.crash = false) : R.counted.2 = false ∧ R.counted.1.dur = R.dur ∧ R.counted.1.wr = R.wr ∧ Rel D.tick R.counted.1 m := by
  have h0 : R.lim ≠ 0 := by
    rw [h.lim]
    simp only [DS.crash, Bool.and_eq_false_iff, beq_eq_false_iff_ne] at hc
    split
    · rename_i hl; rcases hc with hc | hc
      · rw [hl] at hc; cases hc
      · exact hc
    · omega
  have e : R.counted = ({ R with lim := if 0 < R.lim then R.lim - 1 else R.lim, ops := up (R.ops + 1) }, false) := by simp [RS.counted, h0]
  rw [e]
  refine ⟨rfl, rfl, rfl, h.dur, h.wr, h.down, by simp only [DS.tick]; rw [h.ops], ?_, ?_, ⟨h.ok.n, h.ok.keys, h.ok.dur, h.ok.pend⟩, h.few, h.keys⟩
  · have hl := h.lim
    change (if 0 < R.lim then R.lim - 1 else R.lim) = if D.limd then up (D.lim - 1) else -1
    split at hl
    · rename_i hd
      have := h.lim0 hd
      rw [if_pos hd, if_pos (by omega), hl, up_in' (by omega)]
    · rename_i hd
      rw [if_neg hd, hl]; rfl
  · intro hd
    have hl := h.lim
    have h3 := h.lim0 hd
    simp only [DS.tick] at hd ⊢
    rw [if_pos hd] at hl
    rw [up_in' (by omega)]
    omega
theorem Rel.write {D : DS} {R : RS} {m : Nat} (h : Rel D R m) (k : Int) (b : List UInt8) : (D.write k b).2 = (R.write k b).2 ∧ Rel (D.write k b).1 (R.write k b).1 (m + 1) := by
  have hl := h.dur.len
  unfold DS.write RS.write
  rw [h.down, hl]
  split
  · exact ⟨rfl, h.mono (by omega)⟩
  split
  · exact ⟨rfl, h.mono (by omega)⟩
  split
  · exact ⟨rfl, h.mono (by omega)⟩
  rename_i hk hb
  cases hc : D.crash with
  | true =>
    obtain ⟨e, h2⟩ := h.crash hc
    rw [e]
    exact ⟨rfl, h2.mono (by omega)⟩
  | false =>
    obtain ⟨e, e1, e2, h2⟩ := h.tick hc
    rw [e]
    refine ⟨rfl, ?_⟩
    simp only [Bool.false_eq_true, if_false]
    refine ⟨h2.dur, by simp only; rw [h.wr], h2.down, h2.ops, h2.lim, h2.lim0, ⟨h2.ok.n, h2.ok.keys, h2.ok.dur, ?_⟩, ?_, ?_⟩
    · intro p hp
      rcases List.mem_append.1 hp with hp | hp
      · exact h.ok.pend p hp
      · simp at hp; subst hp; simpa using hb
    · have := h.few; simp; omega
    · intro p hp
      rcases List.mem_append.1 hp with hp | hp
      · exact h.keys p hp
      · simp at hp; subst hp; exact Decidable.not_not.1 hk
theorem Rel.flush {D : DS} {R : RS} {m : Nat} (h : Rel D R m) : D.flush.2 = R.flush.2 ∧ Rel D.flush.1 R.flush.1 m := by
  unfold DS.flush RS.flush
  rw [h.down]
  split
  · exact ⟨rfl, h⟩
  cases hc : D.crash with
  | true =>
    obtain ⟨e, h2⟩ := h.crash hc
    rw [e]
    exact ⟨rfl, h2⟩
  | false =>
    obtain ⟨e, e1, e2, h2⟩ := h.tick hc
    rw [e]
    refine ⟨rfl, ?_⟩
    simp only [Bool.false_eq_true, if_false]
    have hf := DurOk.flush D.pend D.dur h.ok.durOk h.ok.pend
    refine ⟨⟨by simp only [List.length_map, List.length_range]; exact h.dur.len, ?_⟩, rfl, h2.down, h2.ops, h2.lim, h2.lim0, ⟨h2.ok.n, hf.keys, hf.len, fun p hp => by cases hp⟩, by simp, fun p hp => by cases hp⟩
    intro i hi
    simp only [List.length_map, List.length_range] at hi
    have hl := h.dur.len
    simp only [List.getElem?_map, List.getElem?_range hi, Option.map_some]
    rw [dget_flush D.pend D.dur i h.ok.durOk h.ok.pend]
    congr 1
    exact h.vis (by omega)
theorem Rel.read {D : DS} {R : RS} {m : Nat} (h : Rel D R m) (k : Int) : R.read k = D.read k := by
  unfold DS.read RS.read
  rw [h.down, h.dur.len]
  split
  · rfl
  split
  · rfl
  · rename_i hk
    rw [h.vis (Decidable.not_not.1 hk)]
theorem Rel.fail {D : DS} {R : RS} {m : Nat} (h : Rel D R m) : Rel D.fail { R with down := true } m :=
  ⟨h.dur, h.wr, rfl, h.ops, h.lim, h.lim0, h.ok.fail, h.few, h.keys⟩
theorem Rel.restart {D : DS} {R : RS} {m : Nat} (h : Rel D R m) (ch : List UInt8) : (D.restart ch).2 = (R.restart ch).2 ∧ Rel (D.restart ch).1 (R.restart ch).1 m := by
  have hok := h.ok.restart ch
  unfold DS.restart at hok ⊢
  unfold RS.restart
  rw [h.down]
  split
  · exact ⟨rfl, h⟩
  rename_i hd
  rw [if_neg hd] at hok
  refine ⟨rfl, ⟨?_, rfl, rfl, h.ops, rfl, (fun h => by cases h), hok, by simp, fun p hp => by cases hp⟩⟩
  simp only
  rw [h.wr]
  exact DurRel.settle _ _ _ _ h.dur h.ok.durOk h.ok.pend h.keys
def RS.setLim (R : RS) (n : Int) : RS := { R with lim := if -1 > n then -1 else n }
theorem Rel.setLimit {D : DS} {R : RS} {m : Nat} (h : Rel D R m) (n : Int) (hn : n ≤ 9223372036854775807) : Rel (D.setLimit n) (R.setLim n) m := by
  refine ⟨h.dur, h.wr, h.down, h.ops, ?_, ?_, h.ok.setLimit n, h.few, h.keys⟩
  · simp only [DS.setLimit, RS.setLim]
    by_cases h0 : 0 ≤ n
    · simp [h0]; omega
    · simp [h0]; omega
  · simp only [DS.setLimit, decide_eq_true_eq]
    intro h0
    rw [if_neg (by omega)]; omega
theorem xorAt_len' (b : List UInt8) (i : Nat) (c : UInt8) : (xorAt b i c).length = b.length := by simp [xorAt]
theorem Rel.damage {D : DS} {R : RS} {m : Nat} (h : Rel D R m) (k at_ : Int) (c : UInt8) : (D.damage k at_ c).2 = (R.damage k at_ c).2 ∧ Rel (D.damage k at_ c).1 (R.damage k at_ c).1 m := by
  unfold DS.damage RS.damage
  rw [h.dur.len]
  split
  · exact ⟨rfl, h⟩
  split
  · exact ⟨rfl, h⟩
  rename_i hk ha
  have hk := Decidable.not_not.1 hk
  have hp := h.ok.durOk.put k (b := xorAt (dget D.dur k) at_.toNat c) (by rw [xorAt_len']; exact h.ok.dget_len k)
  have hx : ∀ p ∈ D.pend.map (xorW k at_.toNat c), p.2.length = 256 ∧ 0 ≤ p.1 ∧ p.1 < D.n := by
    intro p hp
    obtain ⟨q, hq, rfl⟩ := List.mem_map.1 hp
    have h1 := h.ok.pend q hq
    have h2 := h.keys q hq
    unfold xorW
    split
    · exact ⟨by simp only; rw [xorAt_len']; exact h1, h2⟩
    · exact ⟨h1, h2⟩
  refine ⟨rfl, ⟨?_, by simp only; rw [h.wr], h.down, h.ops, h.lim, h.lim0, ⟨h.ok.n, hp.keys, hp.len, fun p hp => (hx p hp).1⟩, by simp only [List.length_map]; exact h.few, fun p hp => (hx p hp).2⟩⟩
  simp only
  rw [h.dur.get hk]
  exact h.dur.put h.ok.durOk hk _
theorem Rel.new {n : Int} (h : 1 ≤ n ∧ n ≤ 4096) : Rel (DS.new n) (RS.new n.toNat) 0 := by
  refine ⟨⟨by simp [RS.new, DS.new]; omega, ?_⟩, rfl, rfl, rfl, rfl, (fun h => by cases h), DS.Ok.new (by omega), by simp [DS.new], fun p hp => by cases hp⟩
  intro i hi
  simp only [RS.new, List.length_replicate] at hi
  simp [RS.new, hi, DS.new, dget, kvGet]

/-- An operation of the law. -/
structure OpS where
  kind : Int
  sector : Int
  at_ : Int
  first : UInt8
  step : UInt8
  ch : List UInt8
def OpS.d (o : OpS) (D : DS) : DS :=
  if o.kind = 0 then (D.write o.sector (bytesOf o.first o.step)).1 else if o.kind = 1 then D.flush.1 else if o.kind = 2 then D else if o.kind = 3 then D.fail
  else if o.kind = 4 then (D.restart o.ch).1 else if o.kind = 5 then D.setLimit o.at_ else if o.kind = 6 then (D.damage o.sector o.at_ o.first).1
  else if o.kind = 7 then (D.write o.sector ((bytesOf o.first o.step).take o.first.toNat)).1 else D
def OpS.r (o : OpS) (R : RS) : RS :=
  if o.kind = 0 then (R.write o.sector (bytesOf o.first o.step)).1 else if o.kind = 1 then R.flush.1 else if o.kind = 2 then R else if o.kind = 3 then { R with down := true }
  else if o.kind = 4 then (R.restart o.ch).1 else if o.kind = 5 then R.setLim o.at_ else if o.kind = 6 then (R.damage o.sector o.at_ o.first).1
  else if o.kind = 7 then (R.write o.sector ((bytesOf o.first o.step).take o.first.toNat)).1 else R
theorem Rel.op {D : DS} {R : RS} {m : Nat} (h : Rel D R m) (o : OpS) (ha : o.at_ ≤ 9223372036854775807) : Rel (o.d D) (o.r R) (m + 1) := by
  unfold OpS.d OpS.r
  repeat' split
  · exact (h.write _ _).2
  · exact h.flush.2.mono (Nat.le_succ m)
  · exact h.mono (Nat.le_succ m)
  · exact h.fail.mono (Nat.le_succ m)
  · exact (h.restart _).2.mono (Nat.le_succ m)
  · exact (h.setLimit _ ha).mono (Nat.le_succ m)
  · exact (h.damage _ _ _).2.mono (Nat.le_succ m)
  · exact (h.write _ _).2
  · exact h.mono (Nat.le_succ m)
theorem RefI.agg {I : Gh} {v : Value} {R : RS} (h : RefI I v R) : ∃ dv wv, IsSl dv R.dur.length ∧ IsSl wv R.wr.length ∧ v = .agg [dv, wv, .int .i64 R.lim, .bool R.down, .int .i64 R.ops].toArray := by
  obtain ⟨dv, wv, dcs, wcs, e, h1, h2, h3, h4⟩ := h
  exact ⟨dv, wv, h1.is, h3.is, e⟩
theorem RefI.setDown {I : Gh} {dv wv : Value} {R : RS} (h : RefI I (.agg [dv, wv, .int .i64 R.lim, .bool R.down, .int .i64 R.ops].toArray) R) : RefI I (.agg [dv, wv, .int .i64 R.lim, .bool true, .int .i64 R.ops].toArray) { R with down := true } := by
  obtain ⟨dv', wv', dcs, wcs, e, h1, h2, h3, h4⟩ := h
  simp only [rdV, Value.agg.injEq, List.toArray_inj, List.cons.injEq] at e
  obtain ⟨rfl, rfl, -⟩ := e
  exact ⟨dv, wv, dcs, wcs, rfl, h1, h2, h3, h4⟩
theorem RefI.setLim {I : Gh} {dv wv : Value} {R : RS} (n : Int) (h : RefI I (.agg [dv, wv, .int .i64 R.lim, .bool R.down, .int .i64 R.ops].toArray) R) : RefI I (.agg [dv, wv, .int .i64 (if -1 > n then -1 else n), .bool R.down, .int .i64 R.ops].toArray) (R.setLim n) := by
  obtain ⟨dv', wv', dcs, wcs, e, h1, h2, h3, h4⟩ := h
  simp only [rdV, Value.agg.injEq, List.toArray_inj, List.cons.injEq] at e
  obtain ⟨rfl, rfl, -⟩ := e
  exact ⟨dv, wv, dcs, wcs, rfl, h1, h2, h3, h4⟩
theorem slTake {I : Gh} {v : Value} {n : Nat} {l : List UInt8} (h : SlI I v n (l.map byteV)) (k : Nat) (hk : k ≤ n) : SlI I (slv v 0 k 1) (k - 0) ((l.take k).map byteV) := by
  have := h.slv (sz := 1) (l := 0) (h := k) (by omega) hk
  simpa [sub, List.map_take] using this
theorem rdsTake {I : Gh} {L : List Ch} {v : Value} {n : Nat} {l : List UInt8} (h : Rds I L v (l.map byteV)) (hv : IsSl v n) (k : Nat) (hk : k ≤ n) : Rds I L (slv v 0 k 1) ((l.take k).map byteV) := by
  intro w X hS
  have := (h w X hS).slv (sz := 1) (l := 0) (h := k) hv (by omega) hk
  simpa [sub, List.map_take] using this
end Go.DK
