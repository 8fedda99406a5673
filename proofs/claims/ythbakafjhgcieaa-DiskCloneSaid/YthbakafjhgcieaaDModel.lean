/- The device, as plain data. -/
import Derived.Test.YthbakafjhgcieaaSLMore
set_option linter.unusedVariables false
set_option linter.unusedSimpArgs false
namespace Go.DK
open Go.SL

def zSec : List UInt8 := List.replicate 256 0
structure DS where
  n : Int
  dur : List (Int × List UInt8)
  pend : List (Int × List UInt8)
  ops : Int
  limd : Bool
  lim : Int
  down : Bool

def up (z : Int) : Int := IntKind.i64.wrap z
def dget (dur : List (Int × List UInt8)) (k : Int) : List UInt8 := (kvGet dur k).getD zSec
def lastOf : List (Int × List UInt8) → Int → Option (List UInt8)
  | [], _ => none
  | (j, b) :: r, k => (lastOf r k).or (if j = k then some b else none)
def vis (D : DS) (k : Int) : List UInt8 := (lastOf D.pend k).getD (dget D.dur k)
def put (dur : List (Int × List UInt8)) (k : Int) (b : List UInt8) : List (Int × List UInt8) := if b = zSec then kvDel dur k else kvSet dur k b

def DS.new (n : Int) : DS := ⟨n, [], [], 0, false, 0, false⟩
def DS.tick (D : DS) : DS := { D with ops := up (D.ops + 1), lim := up (D.lim - 1) }
def DS.crash (D : DS) : Bool := D.limd && D.lim == 0
def DS.write (D : DS) (k : Int) (b : List UInt8) : DS × Int :=
  if D.down then (D, 28) else if ¬ (0 ≤ k ∧ k < D.n) then (D, 8) else if b.length ≠ 256 then (D, 2)
  else if D.crash then ({ D with down := true }, 28) else ({ D.tick with pend := D.pend ++ [(k, b)] }, 0)
def DS.flush (D : DS) : DS × Int :=
  if D.down then (D, 28) else if D.crash then ({ D with down := true }, 28)
  else ({ D.tick with dur := D.pend.foldl (fun d p => put d p.1 p.2) D.dur, pend := [] }, 0)
def DS.read (D : DS) (k : Int) : List UInt8 × Int :=
  if D.down then ([], 28) else if ¬ (0 ≤ k ∧ k < D.n) then ([], 8) else (vis D k, 0)
def fate (old b : List UInt8) (c : UInt8) : List UInt8 :=
  if c.toNat % 3 = 0 then old else if c.toNat % 3 = 1 then b else b.take (c.toNat / 3 % 17 * 16) ++ old.drop (c.toNat / 3 % 17 * 16)
def settle (dur : List (Int × List UInt8)) (choices : List UInt8) : List (Int × List UInt8) → List (Int × List UInt8)
  | [] => dur
  | p :: r => settle (put dur p.1 (fate (dget dur p.1) p.2 (choices[0]?.getD 0))) choices.tail r
theorem settle_snoc (p : Int × List UInt8) : ∀ (l : List (Int × List UInt8)) (dur : List (Int × List UInt8)) (ch : List UInt8), settle dur ch (l ++ [p]) = put (settle dur ch l) p.1 (fate (dget (settle dur ch l) p.1) p.2 (ch[l.length]?.getD 0))
  | [], dur, ch => rfl
  | q :: r, dur, ch => by
    simp only [List.cons_append, settle, List.length_cons]
    rw [settle_snoc p r]
    simp
def DS.restart (D : DS) (choices : List UInt8) : DS × Int :=
  if ¬ D.down then (D, 10) else ({ D with dur := settle D.dur choices D.pend, pend := [], down := false, limd := false, lim := 0 }, 0)
def xorAt (b : List UInt8) (i : Nat) (c : UInt8) : List UInt8 := b.set i (b[i]?.getD 0 ^^^ c)
def xorW (k : Int) (i : Nat) (c : UInt8) (p : Int × List UInt8) : Int × List UInt8 := if p.1 = k then (p.1, xorAt p.2 i c) else p
def DS.damage (D : DS) (k at_ : Int) (c : UInt8) : DS × Int :=
  if ¬ (0 ≤ k ∧ k < D.n) then (D, 8) else if at_ < 0 ∨ 256 ≤ at_ then (D, 2)
  else ({ D with dur := put D.dur k (xorAt (dget D.dur k) at_.toNat c), pend := D.pend.map (xorW k at_.toNat c) }, 0)
def DS.setLimit (D : DS) (n : Int) : DS := { D with limd := decide (0 ≤ n), lim := if 0 > n then 0 else n }
def DS.fail (D : DS) : DS := { D with down := true }

structure DS.Ok (D : DS) : Prop where
  n : 0 ≤ D.n ∧ D.n ≤ 4096
  keys : (D.dur.map Prod.fst).Nodup
  dur : ∀ p ∈ D.dur, p.2.length = 256
  pend : ∀ p ∈ D.pend, p.2.length = 256

theorem kvGet_mem {β : Type} {kv : List (Int × β)} {k : Int} {v : β} (h : kvGet kv k = some v) : (k, v) ∈ kv := by
  induction kv with
  | nil => cases h
  | cons p r ih =>
    obtain ⟨j, u⟩ := p
    simp only [kvGet] at h
    split at h
    · rename_i e; subst e; cases h; simp
    · exact List.mem_cons_of_mem _ (ih h)
theorem lastOf_mem {k : Int} {v : List UInt8} : ∀ {l : List (Int × List UInt8)}, lastOf l k = some v → (k, v) ∈ l
  | [], h => by cases h
  | (j, b) :: r, h => by
    simp only [lastOf] at h
    cases hr : lastOf r k with
    | some u =>
      rw [hr] at h
      simp at h; subst h
      exact List.mem_cons_of_mem _ (lastOf_mem hr)
    | none =>
      rw [hr] at h
      simp only [Option.none_or] at h
      split at h
      · rename_i e; subst e; cases h; simp
      · cases h
theorem DS.Ok.dget_len {D : DS} (h : D.Ok) (k : Int) : (dget D.dur k).length = 256 := by
  unfold dget
  cases hg : kvGet D.dur k with
  | none => exact List.length_replicate
  | some v => exact h.dur _ (kvGet_mem hg)
theorem DS.Ok.vis_len {D : DS} (h : D.Ok) (k : Int) : (vis D k).length = 256 := by
  unfold vis
  cases hg : lastOf D.pend k with
  | none => exact h.dget_len k
  | some v => exact h.pend _ (lastOf_mem hg)
theorem kvSet_mem {β : Type} {kv : List (Int × β)} {k : Int} {v : β} {p : Int × β} (h : p ∈ kvSet kv k v) : p ∈ kv ∨ p.2 = v := by
  induction kv with
  | nil => simp [kvSet] at h; subst h; exact .inr rfl
  | cons q r ih =>
    obtain ⟨j, u⟩ := q
    simp only [kvSet] at h
    split at h
    · rcases List.mem_cons.1 h with h | h
      · subst h; exact .inr rfl
      · exact .inl (List.mem_cons_of_mem _ h)
    · rcases List.mem_cons.1 h with h | h
      · subst h; exact .inl (by simp)
      · rcases ih h with h | h
        · exact .inl (List.mem_cons_of_mem _ h)
        · exact .inr h
theorem kvDel_mem {β : Type} {kv : List (Int × β)} {k : Int} {p : Int × β} (h : p ∈ kvDel kv k) : p ∈ kv := by
  induction kv with
  | nil => simp [kvDel] at h
  | cons q r ih =>
    obtain ⟨j, u⟩ := q
    simp only [kvDel] at h
    split at h
    · exact List.mem_cons_of_mem _ h
    · rcases List.mem_cons.1 h with h | h
      · subst h; simp
      · exact List.mem_cons_of_mem _ (ih h)
/-- A good durable part. -/
structure DurOk (dur : List (Int × List UInt8)) : Prop where
  keys : (dur.map Prod.fst).Nodup
  len : ∀ p ∈ dur, p.2.length = 256
theorem DurOk.put {dur : List (Int × List UInt8)} (h : DurOk dur) (k : Int) {b : List UInt8} (hb : b.length = 256) : DurOk (put dur k b) := by
  unfold DK.put
  split
  · exact ⟨h.keys.sublist (kvDel_sub dur k), fun p hp => h.len p (kvDel_mem hp)⟩
  · refine ⟨?_, fun p hp => ?_⟩
    · rw [kvSet_keys]
      split
      · exact h.keys
      · rename_i hk
        rw [List.nodup_append]
        refine ⟨h.keys, by simp, ?_⟩
        intro a ha c hc
        simp at hc; subst hc
        rintro rfl
        exact hk ha
    · rcases kvSet_mem hp with h1 | h1
      · exact h.len p h1
      · rw [h1]; exact hb
theorem DurOk.get {dur : List (Int × List UInt8)} (h : DurOk dur) (k : Int) : (dget dur k).length = 256 := by
  unfold dget
  cases hg : kvGet dur k with
  | none => exact List.length_replicate
  | some v => exact h.len _ (kvGet_mem hg)
theorem fate_len {old b : List UInt8} (h1 : old.length = 256) (h2 : b.length = 256) (c : UInt8) : (fate old b c).length = 256 := by
  unfold fate
  split
  · exact h1
  · split
    · exact h2
    · simp [h1, h2]; omega
theorem DurOk.settle : ∀ (l : List (Int × List UInt8)) (dur : List (Int × List UInt8)) (ch : List UInt8), DurOk dur → (∀ p ∈ l, p.2.length = 256) → DurOk (settle dur ch l)
  | [], _, _, h, _ => h
  | p :: r, dur, ch, h, hl => DurOk.settle r _ _ (h.put _ (fate_len (h.get _) (hl p (by simp)) _)) (fun q hq => hl q (by simp [hq]))
theorem DurOk.flush : ∀ (l : List (Int × List UInt8)) (dur : List (Int × List UInt8)), DurOk dur → (∀ p ∈ l, p.2.length = 256) → DurOk (l.foldl (fun d p => DK.put d p.1 p.2) dur)
  | [], _, h, _ => h
  | p :: r, dur, h, hl => DurOk.flush r _ (h.put _ (hl p (by simp))) (fun q hq => hl q (by simp [hq]))
theorem DS.Ok.durOk {D : DS} (h : D.Ok) : DurOk D.dur := ⟨h.keys, h.dur⟩
theorem DS.Ok.restart {D : DS} (h : D.Ok) (ch : List UInt8) : (D.restart ch).1.Ok := by
  unfold DS.restart
  split
  · exact h
  · have := DurOk.settle D.pend D.dur ch h.durOk h.pend
    exact ⟨h.n, this.keys, this.len, fun p hp => by cases hp⟩
theorem DS.Ok.flush {D : DS} (h : D.Ok) : D.flush.1.Ok := by
  unfold DS.flush
  split
  · exact h
  · split
    · exact ⟨h.n, h.keys, h.dur, h.pend⟩
    · have := DurOk.flush D.pend D.dur h.durOk h.pend
      exact ⟨h.n, this.keys, this.len, fun p hp => by cases hp⟩
theorem DS.Ok.write {D : DS} (h : D.Ok) (k : Int) (b : List UInt8) : (D.write k b).1.Ok := by
  unfold DS.write
  split
  · exact h
  · split
    · exact h
    · split
      · exact h
      · split
        · exact ⟨h.n, h.keys, h.dur, h.pend⟩
        · rename_i hb _
          refine ⟨h.n, h.keys, h.dur, fun p hp => ?_⟩
          rcases List.mem_append.1 hp with hp | hp
          · exact h.pend p hp
          · simp at hp; subst hp; simpa using hb
theorem DS.Ok.fail {D : DS} (h : D.Ok) : D.fail.Ok := ⟨h.n, h.keys, h.dur, h.pend⟩
theorem DS.Ok.setLimit {D : DS} (h : D.Ok) (n : Int) : (D.setLimit n).Ok := ⟨h.n, h.keys, h.dur, h.pend⟩
theorem DS.Ok.new {n : Int} (h : 0 ≤ n ∧ n ≤ 4096) : (DS.new n).Ok := ⟨h, by simp [DS.new], (fun p hp => by cases hp), (fun p hp => by cases hp)⟩
def secV (b : List UInt8) : Value := .agg (b.map byteV).toArray
def flatP (l : List (Int × List UInt8)) : List Value := l.flatMap fun p => .int .i64 p.1 :: p.2.map byteV
theorem flatP_append (l m : List (Int × List UInt8)) : flatP (l ++ m) = flatP l ++ flatP m := by simp [flatP]
theorem flatP_len {l : List (Int × List UInt8)} (h : ∀ p ∈ l, p.2.length = 256) : (flatP l).length = l.length * 257 := by
  induction l with
  | nil => rfl
  | cons p r ih =>
    have h1 := h p (by simp)
    have h2 := ih (fun q hq => h q (by simp [hq]))
    simp only [flatP, List.flatMap_cons, List.length_append, List.length_cons, List.length_map, h1] at h2 ⊢
    rw [h2]; omega
theorem flatP_sub : ∀ {l : List (Int × List UInt8)} (h : ∀ p ∈ l, p.2.length = 256) {i : Nat} {p : Int × List UInt8}, l[i]? = some p → sub (flatP l) (i * 257) 257 = .int .i64 p.1 :: p.2.map byteV := by
  intro l
  induction l with
  | nil => intro _ i p hp; simp at hp
  | cons q r ih =>
    intro h i p hp
    have hq := h q (by simp)
    have e : flatP (q :: r) = (.int .i64 q.1 :: q.2.map byteV) ++ flatP r := by simp [flatP]
    cases i with
    | zero =>
      simp at hp; subst hp
      rw [e]
      simp [sub, hq]
    | succ i =>
      have := ih (fun p hp => h p (by simp [hp])) (i := i) (p := p) (by simpa using hp)
      rw [e, ← this]
      simp only [sub]
      rw [List.drop_append, List.drop_eq_nil_of_le (by simp [hq]; omega), List.nil_append]
      congr 2
      simp [hq]; omega
theorem flatP_get {l : List (Int × List UInt8)} (h : ∀ p ∈ l, p.2.length = 256) {i j : Nat} {p : Int × List UInt8} (hp : l[i]? = some p) (hj : j < 257) : (flatP l)[i * 257 + j]? = (Value.int .i64 p.1 :: p.2.map byteV)[j]? := by
  have := flatP_sub h hp
  rw [← this, sub, List.getElem?_take, if_pos hj, List.getElem?_drop]
theorem flatP_set : ∀ {l : List (Int × List UInt8)} (h : ∀ p ∈ l, p.2.length = 256) {i j : Nat} {p : Int × List UInt8} (b : List UInt8) (v : Value), j < 256 → l[i]? = some p → (p.2.map byteV).set j v = b.map byteV → (flatP l).set (i * 257 + (1 + j)) v = flatP (l.set i (p.1, b))
  | [], _, i, j, p, b, v, _, hp, _ => by simp at hp
  | q :: r, h, 0, j, p, b, v, hj, hp, hb => by
    simp at hp; subst hp
    have hq := h q (by simp)
    simp only [flatP, List.flatMap_cons, List.set_cons_zero, Nat.zero_mul, Nat.zero_add]
    rw [List.set_append_left _ _ (by simp; omega), ← hb, Nat.add_comm 1 j, List.set_cons_succ]
  | q :: r, h, i + 1, j, p, b, v, hj, hp, hb => by
    have hq := h q (by simp)
    have ih := flatP_set (l := r) (fun p hp => h p (by simp [hp])) (i := i) (j := j) (p := p) b v hj (by simpa using hp) hb
    simp only [flatP, List.flatMap_cons, List.set_cons_succ] at ih ⊢
    rw [← ih, List.set_append_right _ _ (by simp [hq]; omega)]
    congr 2
    simp [hq]; omega
theorem vis_none {D : DS} {k : Int} (h : ∀ (j : Nat) p, D.pend[j]? = some p → p.1 ≠ k) : vis D k = dget D.dur k := by
  have : ∀ l : List (Int × List UInt8), (∀ p ∈ l, p.1 ≠ k) → lastOf l k = none := by
    intro l
    induction l with
    | nil => intro _; rfl
    | cons q r ih =>
      intro hq
      obtain ⟨j, b⟩ := q
      simp only [lastOf, ih (fun p hp => hq p (by simp [hp])), Option.none_or]
      rw [if_neg (hq (j, b) (by simp))]
  rw [vis, this D.pend (fun p hp => by obtain ⟨j, hj⟩ := List.getElem?_of_mem hp; exact h j p hj)]
  rfl
theorem lastOf_some {k : Int} : ∀ {l : List (Int × List UInt8)} {i : Nat} {p : Int × List UInt8}, l[i]? = some p → p.1 = k → (∀ (j : Nat) q, i < j → l[j]? = some q → q.1 ≠ k) → lastOf l k = some p.2 := by
  intro l
  induction l with
  | nil => intro i p h; simp at h
  | cons q r ih =>
    intro i p h hk hj
    obtain ⟨j0, b0⟩ := q
    cases i with
    | zero =>
      simp at h; subst h
      have : lastOf r k = none := by
        have : ∀ l : List (Int × List UInt8), (∀ p ∈ l, p.1 ≠ k) → lastOf l k = none := by
          intro l
          induction l with
          | nil => intro _; rfl
          | cons q r ih =>
            intro hq
            obtain ⟨j, b⟩ := q
            simp only [lastOf, ih (fun p hp => hq p (by simp [hp])), Option.none_or]
            rw [if_neg (hq (j, b) (by simp))]
        exact this r (fun p hp => by obtain ⟨j, hjj⟩ := List.getElem?_of_mem hp; exact hj (j + 1) p (by omega) (by simpa using hjj))
      simp only at hk
      simp [lastOf, this, hk]
    | succ i =>
      have := ih (i := i) (p := p) (by simpa using h) hk (fun j q h1 h2 => hj (j + 1) q (by omega) (by simpa using h2))
      simp [lastOf, this]
theorem vis_some {D : DS} {k : Int} {i : Nat} {p : Int × List UInt8} (h : D.pend[i]? = some p) (hk : p.1 = k) (hj : ∀ (j : Nat) q, i < j → D.pend[j]? = some q → q.1 ≠ k) : vis D k = p.2 := by
  rw [vis, lastOf_some h hk hj]; rfl
def dkv (dur : List (Int × List UInt8)) : List (Int × Value) := dur.map fun p => (p.1, secV p.2)
theorem byteV_oc (b : List UInt8) : Oc (b.map byteV) := by
  intro u hu
  obtain ⟨c, _, rfl⟩ := List.mem_map.1 hu
  rfl

/-- A list of writes as the program shows it: sector, bytes. -/
def PendI (I : Gh) : List (Int × List UInt8) → List Value → Prop
  | [], cs => cs = []
  | (k, b) :: r, cs => ∃ u cr, cs = .int .i64 k :: u :: cr ∧ SlI I u b.length (b.map byteV) ∧ PendI I r cr
theorem PendI.mono {I J : Gh} (hle : I.le J) : ∀ {l : List (Int × List UInt8)} {cs : List Value}, PendI I l cs → PendI J l cs
  | [], _, h => h
  | (k, b) :: r, _, ⟨u, cr, e, h, hr⟩ => ⟨u, cr, e, h.mono hle, hr.mono hle⟩
theorem PendI.snoc {I : Gh} {k : Int} {b : List UInt8} {u : Value} (hu : SlI I u b.length (b.map byteV)) : ∀ {l : List (Int × List UInt8)} {cs : List Value}, PendI I l cs → PendI I (l ++ [(k, b)]) (cs ++ [.int .i64 k, u])
  | [], _, h => by cases h; exact ⟨u, [], rfl, hu, rfl⟩
  | (j, c) :: r, _, ⟨v, cr, e, h, hr⟩ => by subst e; exact ⟨v, _, rfl, h, hr.snoc hu⟩
theorem PendI.len {I : Gh} : ∀ {l : List (Int × List UInt8)} {cs : List Value}, PendI I l cs → cs.length = l.length * 2
  | [], _, h => by cases h; rfl
  | (j, c) :: r, _, ⟨v, cr, e, h, hr⟩ => by subst e; simp [hr.len]; omega
theorem PendI.get {I : Gh} : ∀ {l : List (Int × List UInt8)} {cs : List Value}, PendI I l cs → ∀ {i : Nat} {p : Int × List UInt8}, l[i]? = some p → ∃ u, SlI I u p.2.length (p.2.map byteV) ∧ cs[i * 2]? = some (.int .i64 p.1) ∧ cs[i * 2 + 1]? = some u
  | [], _, h, i, p, hp => by simp at hp
  | (j, c) :: r, _, ⟨v, cr, e, h, hr⟩, i, p, hp => by
    subst e
    cases i with
    | zero => simp at hp; subst hp; exact ⟨v, h, rfl, rfl⟩
    | succ i =>
      obtain ⟨u, h1, h2, h3⟩ := hr.get (i := i) (p := p) (by simpa using hp)
      refine ⟨u, h1, ?_, ?_⟩
      · rw [show (i + 1) * 2 = i * 2 + 2 from by omega]; simpa using h2
      · rw [show (i + 1) * 2 + 1 = (i * 2 + 1) + 2 from by omega]; simpa using h3
def bytesOf (a c : UInt8) : List UInt8 := (List.range 256).map fun i => a + UInt8.ofNat i * c
theorem bytesOf_len (a c : UInt8) : (bytesOf a c).length = 256 := by simp [bytesOf]
/-- A slice written element by element. -/
theorem fill_set {α β : Type} (g : α → β) (xs : List α) (z : α) (i : Nat) (h : i < xs.length) (v : β) (hv : v = g xs[i]) :
    ((xs.take i ++ List.replicate (xs.length - i) z).map g).set i v = (xs.take (i + 1) ++ List.replicate (xs.length - (i + 1)) z).map g := by
  subst hv
  apply List.ext_getElem?
  intro j
  simp only [List.getElem?_set, List.map_append, List.length_append, List.length_map, List.length_take, List.length_replicate]
  by_cases hj : i = j
  · subst hj
    simp [List.getElem?_append, List.getElem?_take, h, Nat.min_eq_left (show i + 1 ≤ xs.length from h)]
    omega
  · simp only [hj, if_false, List.getElem?_append, List.length_map, List.length_take]
    rcases Nat.lt_or_ge j i with h1 | h1
    · rw [if_pos (by omega), if_pos (by omega)]
      simp [List.getElem?_take, h1, show j < i + 1 from by omega]
    · rw [if_neg (by omega), if_neg (by omega)]
      simp only [List.getElem?_map, List.getElem?_replicate, Nat.min_eq_left (Nat.le_of_lt h), Nat.min_eq_left (show i + 1 ≤ xs.length from h)]
      by_cases h2 : j < xs.length
      · rw [if_pos (by omega), if_pos (by omega)]
      · rw [if_neg (by omega), if_neg (by omega)]
theorem byte_step (a c : UInt8) (i : Nat) (h : i < 256) : Value.int .u8 (IntKind.u8.wrap ((a.toNat : Int) + IntKind.u8.wrap ((i : Int) * (c.toNat : Int)))) = byteV (a + UInt8.ofNat i * c) := by
  have e : ∀ n : Nat, IntKind.u8.wrap (n : Int) = ((n % 256 : Nat) : Int) := by
    intro n
    have := IntWalk.u8_in ((n % 256 : Nat) : Int) (by omega)
    rw [← this]
    simp [IntKind.wrap, IntKind.bits, IntKind.signed]
  rw [← Int.natCast_mul, e, ← Int.natCast_add, e]
  simp only [byteV, UInt8.toNat_add, UInt8.toNat_mul, UInt8.toNat_ofNat']
  congr 2
  have : i % 2 ^ 8 = i := Nat.mod_eq_of_lt h
  rw [this]
end Go.DK
