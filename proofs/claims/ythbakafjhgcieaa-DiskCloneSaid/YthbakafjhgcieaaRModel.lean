/- The reference's device, as plain data, and how it lies in memory. -/
import Derived.Test.YthbakafjhgcieaaDModel
import Derived.Test.YthbakafjhgcieaaSLUp
set_option linter.unusedVariables false
set_option linter.unusedSimpArgs false
namespace Go.DK
open Go.SL

structure RS where
  dur : List (List UInt8)
  wr : List (Int × List UInt8)
  lim : Int
  down : Bool
  ops : Int

theorem zSec_l : zSec.length = 256 := List.length_replicate
def RS.new (n : Nat) : RS := ⟨List.replicate n zSec, [], -1, false, 0⟩
def RS.vis (R : RS) (k : Int) : List UInt8 := (lastOf R.wr k).getD (R.dur[k.toNat]?.getD [])
def RS.is (R : RS) (k : Int) : Bool := decide (0 ≤ k ∧ k < R.dur.length)
def RS.read (R : RS) (k : Int) : List UInt8 × Int := if R.down then ([], 28) else if ¬ (0 ≤ k ∧ k < R.dur.length) then ([], 8) else (R.vis k, 0)
def RS.counted (R : RS) : RS × Bool := if R.lim = 0 then ({ R with down := true }, true) else ({ R with lim := if 0 < R.lim then R.lim - 1 else R.lim, ops := up (R.ops + 1) }, false)
def RS.write (R : RS) (k : Int) (b : List UInt8) : RS × Int :=
  if R.down then (R, 28) else if ¬ (0 ≤ k ∧ k < R.dur.length) then (R, 8) else if b.length ≠ 256 then (R, 2)
  else if R.counted.2 then (R.counted.1, 28) else ({ R.counted.1 with wr := R.wr ++ [(k, b)] }, 0)
def RS.flush (R : RS) : RS × Int :=
  if R.down then (R, 28) else if R.counted.2 then (R.counted.1, 28)
  else ({ R.counted.1 with dur := (List.range R.dur.length).map fun (i : Nat) => R.vis (i : Int), wr := [] }, 0)
theorem lastOf_snoc (l : List (Int × List UInt8)) (p : Int × List UInt8) (k : Int) : lastOf (l ++ [p]) k = if p.1 = k then some p.2 else lastOf l k := by
  induction l with
  | nil => obtain ⟨j, b⟩ := p; simp [lastOf]
  | cons q r ih =>
    obtain ⟨j, b⟩ := q
    simp only [List.cons_append, lastOf, ih]
    by_cases h : p.1 = k <;> simp [h]
def rset (dur : List (List UInt8)) (k : Int) (b : List UInt8) : List (List UInt8) := dur.set k.toNat b
def rsettle (dur : List (List UInt8)) (ch : List UInt8) : List (Int × List UInt8) → List (List UInt8)
  | [] => dur
  | p :: r => rsettle (rset dur p.1 (fate (dur[p.1.toNat]?.getD []) p.2 (ch[0]?.getD 0))) ch.tail r
theorem rsettle_snoc (p : Int × List UInt8) : ∀ (l : List (Int × List UInt8)) (dur : List (List UInt8)) (ch : List UInt8), rsettle dur ch (l ++ [p]) = rset (rsettle dur ch l) p.1 (fate ((rsettle dur ch l)[p.1.toNat]?.getD []) p.2 (ch[l.length]?.getD 0))
  | [], dur, ch => rfl
  | q :: r, dur, ch => by
    simp only [List.cons_append, rsettle, List.length_cons]
    rw [rsettle_snoc p r]
    simp
theorem rsettle_len : ∀ (l : List (Int × List UInt8)) (dur : List (List UInt8)) (ch : List UInt8), (rsettle dur ch l).length = dur.length
  | [], _, _ => rfl
  | p :: r, dur, ch => by rw [rsettle, rsettle_len r]; simp [rset]
theorem rsettle_ok : ∀ (l : List (Int × List UInt8)) (dur : List (List UInt8)) (ch : List UInt8), (∀ b ∈ dur, b.length = 256) → (∀ p ∈ l, p.2.length = 256 ∧ 0 ≤ p.1 ∧ p.1 < dur.length) → ∀ b ∈ rsettle dur ch l, b.length = 256
  | [], _, _, h, _ => h
  | p :: r, dur, ch, h, hl => by
    refine rsettle_ok r _ _ ?_ ?_
    · intro b hb
      rcases List.mem_or_eq_of_mem_set hb with hb | hb
      · exact h b hb
      · subst hb
        have hp := hl p (by simp)
        have hk : p.1.toNat < dur.length := by omega
        refine fate_len ?_ hp.1 _
        simp [hk]
        exact h _ (List.getElem_mem hk)
    · intro q hq
      have := hl q (by simp [hq])
      simpa [rset] using this
def RS.restart (R : RS) (ch : List UInt8) : RS × Int := if ¬ R.down then (R, 10) else (⟨rsettle R.dur ch R.wr, [], -1, false, R.ops⟩, 0)
theorem fate_nb (old b : List UInt8) (c : UInt8) (nb : Nat) (h1 : old.length = 256) (h2 : b.length = 256) (h : nb = if c.toNat % 3 = 1 then 256 else if c.toNat % 3 = 2 then c.toNat / 3 % 17 * 16 else 0) : fate old b c = b.take nb ++ old.drop nb := by
  unfold fate
  subst h
  rcases (by omega : c.toNat % 3 = 0 ∨ c.toNat % 3 = 1 ∨ c.toNat % 3 = 2) with h | h | h <;> simp [h]
  · rw [List.take_of_length_le (by omega), List.drop_eq_nil_of_le (by omega), List.append_nil]
theorem mix_set (a b : List UInt8) (k : Nat) (x : UInt8) (ha : a[k]? = some x) (hb : k < b.length) : ((a.take k ++ b.drop k).map byteV).set k (byteV x) = (a.take (k + 1) ++ b.drop (k + 1)).map byteV := by
  have hk := (List.getElem?_eq_some_iff.1 ha).1
  rw [← List.map_set]
  congr 1
  apply List.ext_getElem?
  intro j
  simp only [List.getElem?_set, List.getElem?_append, List.length_append, List.length_take, List.length_drop, List.getElem?_take, List.getElem?_drop]
  by_cases hj : k = j
  · subst hj
    rw [if_pos rfl, if_pos (by omega), if_pos (by omega), if_pos (by omega), ha]
  · rw [if_neg hj]
    by_cases h1 : j < k
    · rw [if_pos (by omega), if_pos h1, if_pos (by omega), if_pos (by omega)]
    · rw [if_neg (by omega), if_neg (by omega)]
      congr 1; omega
def RS.damage (R : RS) (k at_ : Int) (c : UInt8) : RS × Int :=
  if ¬ (0 ≤ k ∧ k < R.dur.length) then (R, 8) else if at_ < 0 ∨ 256 ≤ at_ then (R, 2)
  else ({ R with dur := rset R.dur k (xorAt (R.dur[k.toNat]?.getD []) at_.toNat c), wr := R.wr.map (xorW k at_.toNat c) }, 0)
def RS.same (R S : RS) : Bool := decide (R.dur = S.dur ∧ R.wr = S.wr ∧ R.down = S.down ∧ R.lim = S.lim)
/-- Sizes of a reference device. -/
structure RS.Ok (R : RS) : Prop where
  n : R.dur.length ≤ 4096
  dur : ∀ b ∈ R.dur, b.length = 256
  wr : ∀ p ∈ R.wr, p.2.length = 256
  few : R.wr.length ≤ 1000
  keys : ∀ p ∈ R.wr, 0 ≤ p.1 ∧ p.1 < R.dur.length
/-- Immutable byte slices. -/
def BssI (I : Gh) : List (List UInt8) → List Value → Prop
  | [], cs => cs = []
  | b :: r, cs => ∃ u cr, cs = u :: cr ∧ SlI I u b.length (b.map byteV) ∧ BssI I r cr
theorem BssI.mono {I J : Gh} (hle : I.le J) : ∀ {l : List (List UInt8)} {cs : List Value}, BssI I l cs → BssI J l cs
  | [], _, h => h
  | b :: r, _, ⟨u, cr, e, h, hr⟩ => ⟨u, cr, e, h.mono hle, hr.mono hle⟩
theorem BssI.len {I : Gh} : ∀ {l : List (List UInt8)} {cs : List Value}, BssI I l cs → cs.length = l.length
  | [], _, h => by cases h; rfl
  | b :: r, _, ⟨u, cr, e, h, hr⟩ => by subst e; simp [hr.len]
theorem BssI.get {I : Gh} : ∀ {l : List (List UInt8)} {cs : List Value}, BssI I l cs → ∀ {i : Nat} {b : List UInt8}, l[i]? = some b → ∃ u, SlI I u b.length (b.map byteV) ∧ cs[i]? = some u
  | [], _, h, i, b, hb => by simp at hb
  | c :: r, _, ⟨u, cr, e, h, hr⟩, i, b, hb => by
    subst e
    cases i with
    | zero => simp at hb; subst hb; exact ⟨u, h, rfl⟩
    | succ i =>
      obtain ⟨v, h1, h2⟩ := hr.get (i := i) (b := b) (by simpa using hb)
      exact ⟨v, h1, by simpa using h2⟩
theorem BssI.snoc {I : Gh} {b : List UInt8} {u : Value} (hu : SlI I u b.length (b.map byteV)) : ∀ {l : List (List UInt8)} {cs : List Value}, BssI I l cs → BssI I (l ++ [b]) (cs ++ [u])
  | [], _, h => by cases h; exact ⟨u, [], rfl, hu, rfl⟩
  | c :: r, _, ⟨v, cr, e, h, hr⟩ => by subst e; exact ⟨v, _, rfl, h, hr.snoc hu⟩
theorem BssI.oc {I : Gh} : ∀ {l : List (List UInt8)} {cs : List Value}, BssI I l cs → Oc cs
  | [], _, h => by cases h; exact Oc.nil
  | b :: r, _, ⟨u, cr, e, h, hr⟩ => by
    subst e
    intro v hv
    rcases List.mem_cons.1 hv with rfl | hv
    · exact h.is.one
    · exact hr.oc v hv

theorem BssI.set {I : Gh} {b : List UInt8} {u : Value} (hu : SlI I u b.length (b.map byteV)) : ∀ {l : List (List UInt8)} {cs : List Value} (i : Nat), BssI I l cs → BssI I (l.set i b) (cs.set i u)
  | [], _, i, h => by cases h; rfl
  | c :: r, _, 0, ⟨v, cr, e, h, hr⟩ => by subst e; exact ⟨u, cr, rfl, hu, hr⟩
  | c :: r, _, i + 1, ⟨v, cr, e, h, hr⟩ => by subst e; exact ⟨v, _, rfl, h, hr.set hu i⟩
theorem pre_set {α : Type} (g : Nat → α) (l : List α) (i : Nat) (h : i < l.length) : ((List.range i).map g ++ l.drop i).set i (g i) = (List.range (i + 1)).map g ++ l.drop (i + 1) := by
  apply List.ext_getElem?
  intro j
  simp only [List.getElem?_set, List.getElem?_append, List.length_append, List.length_map, List.length_range, List.length_drop, List.getElem?_map, List.getElem?_drop]
  by_cases hj : i = j
  · subst hj
    rw [if_pos rfl, if_pos (by omega), if_pos (by omega)]
    simp
  · rw [if_neg hj]
    by_cases h1 : j < i
    · rw [if_pos h1, if_pos (by omega)]
      simp [h1, show j < i + 1 from by omega]
    · rw [if_neg h1, if_neg (by omega)]
      congr 1; omega
/-- The value of a reference device. -/
def rdV (dv wv : Value) (R : RS) : Value := .agg [dv, wv, .int .i64 R.lim, .bool R.down, .int .i64 R.ops].toArray
/-- A reference device that nothing will change. -/
def RefI (I : Gh) (v : Value) (R : RS) : Prop := ∃ dv wv dcs wcs, v = rdV dv wv R ∧ SlI I dv R.dur.length dcs ∧ BssI I R.dur dcs ∧ SlI I wv R.wr.length wcs ∧ PendI I R.wr wcs
theorem RefI.mono {I J : Gh} {v : Value} {R : RS} (hle : I.le J) (h : RefI I v R) : RefI J v R := by
  obtain ⟨dv, wv, dcs, wcs, e, h1, h2, h3, h4⟩ := h
  exact ⟨dv, wv, dcs, wcs, e, h1.mono hle, h2.mono hle, h3.mono hle, h4.mono hle⟩

/-- A reference device that can be read (the chunks L, or the immutable blocks, hold it). -/
def RefR (I : Gh) (L : List Ch) (v : Value) (R : RS) : Prop := ∃ dv wv dcs wcs, v = rdV dv wv R ∧ (IsSl dv R.dur.length ∧ Rds I L dv dcs) ∧ BssI I R.dur dcs ∧ (IsSl wv R.wr.length ∧ Rds I L wv wcs) ∧ PendI I R.wr wcs
theorem RefR.le {I : Gh} {L N : List Ch} {v : Value} {R : RS} [HasTail N L] (h : RefR I L v R) : RefR I N v R := by
  obtain ⟨dv, wv, dcs, wcs, e, h1, h2, h3, h4⟩ := h
  exact ⟨dv, wv, dcs, wcs, e, ⟨h1.1, h1.2.le⟩, h2, ⟨h3.1, h3.2.le⟩, h4⟩
theorem RefI.rr {I : Gh} {L : List Ch} {v : Value} {R : RS} (h : RefI I v R) : RefR I L v R := by
  obtain ⟨dv, wv, dcs, wcs, e, h1, h2, h3, h4⟩ := h
  exact ⟨dv, wv, dcs, wcs, e, ⟨h1.is, h1.rds⟩, h2, ⟨h3.is, h3.rds⟩, h4⟩
theorem pend_of_bss {I : Gh} : ∀ {qs : List (Int × Value × List UInt8)}, BssI I ((qs.map Prod.snd).map Prod.snd) ((qs.map Prod.snd).map Prod.fst) → PendI I (qs.map fun q => (q.1, q.2.2)) (qs.flatMap fun q => [.int .i64 q.1, q.2.1])
  | [], _ => rfl
  | q :: r, h => by
    obtain ⟨u, cr, e, hu, hr⟩ := h
    simp only [List.map_cons, List.cons.injEq] at e
    obtain ⟨rfl, rfl⟩ := e
    exact ⟨_, _, rfl, hu, pend_of_bss hr⟩
theorem PendI.oc {I : Gh} : ∀ {l : List (Int × List UInt8)} {cs : List Value}, PendI I l cs → Oc cs
  | [], _, h => by cases h; exact Oc.nil
  | (k, b) :: r, _, ⟨u, cr, e, h, hr⟩ => by
    subst e
    intro v hv
    rcases List.mem_cons.1 hv with rfl | hv
    · rfl
    · rcases List.mem_cons.1 hv with rfl | hv
      · exact h.is.one
      · exact hr.oc v hv

/-- Byte slices of one's own: value and bytes. 'E': the type of their cells. -/
def rowF (E : TypeId) (p : Value × List UInt8) : Ch := Row p.1 E 1 p.2.length (p.2.map byteV)
def InB (E : TypeId) (ps : List (Value × List UInt8)) : Ch := Star (ps.map (rowF E))
section
variable {w : World} {I : Gh} {L : List Ch} {E : TypeId} {ps : List (Value × List UInt8)} {u : Value} {b : List UInt8}
theorem InB.nil (h : Sat w I L) : Sat w I (InB E [] :: L) := h.cons_emp trivial
theorem InB.snoc (h : Sat w I (Row u E 1 b.length (b.map byteV) :: InB E ps :: L)) : Sat w I (InB E (ps ++ [(u, b)]) :: L) := by
  have h2 := (h.swap).star
  refine Sat.unstar (L := (ps ++ [(u, b)]).map (rowF E)) ?_
  rw [List.map_append, List.append_assoc]
  exact h2
theorem InB.opn {i : Nat} {p : Value × List UInt8} (hp : ps[i]? = some p) (h : Sat w I (InB E ps :: L)) : Sat w I (rowF E p :: InB E (ps.eraseIdx i) :: L) := by
  have h1 : Sat w I (ps.map (rowF E) ++ L) := h.star
  have h2 := (perm_pull hp).map (rowF E)
  rw [List.map_cons] at h2
  have h3 : (ps.map (rowF E) ++ L).Perm ((ps.eraseIdx i).map (rowF E) ++ rowF E p :: L) :=
    (h2.append_right L).trans (by rw [List.cons_append]; exact List.perm_middle.symm)
  exact (Sat.unstar (h1.perm h3)).swap
theorem InB.shut {i : Nat} {b' : List UInt8} (hp : ps[i]? = some (u, b)) (h : Sat w I (rowF E (u, b') :: InB E (ps.eraseIdx i) :: L)) : Sat w I (InB E (ps.set i (u, b')) :: L) := by
  have hi := (List.getElem?_eq_some_iff.1 hp).1
  have hq : (ps.set i (u, b'))[i]? = some (u, b') := by simp [hi]
  have h2 := (perm_pull hq).map (rowF E)
  rw [List.map_cons, List.eraseIdx_set_eq] at h2
  have h1 : Sat w I ((ps.eraseIdx i).map (rowF E) ++ rowF E (u, b') :: L) := h.swap.star
  refine Sat.unstar (L := (ps.set i (u, b')).map (rowF E)) ?_
  exact h1.perm (List.perm_middle.trans (by rw [← List.cons_append]; exact (h2.append_right L).symm))
theorem InB.shutR {i n : Nat} {b' : List UInt8} {xs : List Value} (hp : ps[i]? = some (u, b)) (hn : n = b'.length) (hx : xs = b'.map byteV) (h : Sat w I (Row u E 1 n xs :: InB E (ps.eraseIdx i) :: L)) : Sat w I (InB E (ps.set i (u, b')) :: L) := by
  subst hn hx
  exact InB.shut hp h
theorem InB.opnR {i : Nat} (hp : ps[i]? = some (u, b)) (h : Sat w I (InB E ps :: L)) : Sat w I (Row u E 1 b.length (b.map byteV) :: InB E (ps.eraseIdx i) :: L) := InB.opn hp h
theorem InB.freeze : ∀ {ps : List (Value × List UInt8)} {I : Gh} {w : World}, Sat w I (InB E ps :: L) → ∃ J, I.le J ∧ Sat w J L ∧ BssI J (ps.map Prod.snd) (ps.map Prod.fst)
  | [], I, w, h => ⟨I, Gh.le.refl I, h.drop, rfl⟩
  | p :: r, I, w, h => by
    have h2 := InB.opn (i := 0) (p := p) rfl h
    obtain ⟨J, hle, hS, hsl⟩ := Sat.freezeRow h2
    obtain ⟨K, hle2, hS2, hb⟩ := InB.freeze (ps := r) hS
    exact ⟨K, hle.trans hle2, hS2, p.1, _, rfl, hsl.mono hle2, hb⟩
end
end Go.DK
