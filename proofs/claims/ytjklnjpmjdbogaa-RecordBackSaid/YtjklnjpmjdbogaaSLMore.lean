/- Further operations: stores into elements, slices of slices, copies, equality of arrays of bytes, bits. -/
import Derived.Test.YtjklnjpmjdbogaaSLFunc
import Derived.KernelRfl
set_option linter.unusedVariables false
set_option linter.unusedSimpArgs false
namespace Go.SL
open Go.RowKit

theorem sub_all {xs : List Value} {n : Nat} (h : xs.length = n) : sub xs 0 n = xs := by simp [sub, ← h]
theorem sub_bytes {bs : List UInt8} {n : Nat} (h : bs.length = n) : sub (bs.map byteV) 0 n = bs.map byteV := sub_all (by simpa using h)
theorem splice_length {cs vs : List Value} {k : Nat} (h : k + vs.length ≤ cs.length) : (splice cs k vs).length = cs.length := by
  simp [splice]; omega
theorem splice_append {cs ds vs : List Value} {k : Nat} (h : k + vs.length ≤ cs.length) : splice (cs ++ ds) k vs = splice cs k vs ++ ds := by
  simp only [splice]
  rw [List.take_append_of_le_length (by omega), List.drop_append_of_le_length (by omega)]
  simp
theorem Oc.splice {cs vs : List Value} {k : Nat} (h : Oc cs) (hv : Oc vs) : Oc (splice cs k vs) := by
  intro u hu
  simp only [SL.splice, List.mem_append] at hu
  rcases hu with (hu | hu) | hu
  · exact h u (List.mem_of_mem_take hu)
  · exact hv u hu
  · exact h u (List.mem_of_mem_drop hu)
section
variable {P : Program} {w w' : World} {I J : Gh} {L M : List Ch} {c d : Ch} {b b' : Nat} {o o' : Obj} {E : TypeId} {cs xs ys news : List Value} {v u : Value} {n m k sz : Nat} {p : Addr}
variable {a : Act} {K : Act → World → Prop} {Q : Exit → Act → World → Prop} {dst : Option Tmp} {x y z : Operand} {t ty : TypeId} {pos : String} {af : Array Edge} {gd : Option (Nat × Bool)}

/-- The row, opened: its block. -/
theorem Sat.rowBlk {rep : Ch → List Ch} (hS : Sat w I L) [hi : HasRow L v E sz n xs rep] (h0 : 0 < n) : ∃ g cap rest, v = .slice (some ⟨g, 0, none⟩) n cap ∧ n ≤ cap ∧ xs.length = n * sz ∧ Oc xs ∧ rest.length = (cap - n) * sz ∧ w.heap[g]? = some (.cells (xs ++ rest).toArray E (0, 0)) := by
  obtain ⟨i, hi, e⟩ := hi.has
  obtain ⟨⟨f, ⟨gf, m', dj, ef, ⟨⟨hl0, ho0⟩, hc0⟩, hL⟩, hf⟩, r1, r2, r3, r4⟩ := hS.pull i hi
  rcases hc0 with ⟨_, e2⟩ | ⟨q, cap, r0, e1, hn', hm', hr', hq⟩
  · omega
  · exact ⟨q, cap, r0, e1, hn', hl0, ho0, hr', (hf q _ (by rw [ef]; simp only [Fp.join]; rw [hq]; rfl)).1⟩
theorem Sat.setEl {rep : Ch → List Ch} {vs : List Value} (hS : Sat w I L) [hi : HasRow L v E sz n xs rep] (h0 : 0 < n) (hk : k + vs.length ≤ xs.length) (hv : Oc vs) (hval : u.cells.toList = vs) (hs : sizeB P t = some vs.length) :
    ∃ w', (storeVar t (ea v k) u).run P w = .ok () w' ∧ Sat w' I (rep (Row v E sz n (splice xs k vs))) := by
  obtain ⟨g, cap, rest, rfl, hn, hl, ho, hr, hb⟩ := hS.rowBlk (hi := hi) h0
  have h1 := run_storeVar_cells (P := P) (t := t) (v := u) (k := k) hb (by rw [hval]; exact hs) (by rw [hval, List.length_append]; omega) (by rw [hval]; exact hv)
  rw [hval, splice_append hk] at h1
  refine ⟨_, by simpa [ea, Addr.add_lit] using h1, ?_⟩
  have := hS.updRow (hi := hi) (m := n) (ys := splice xs k vs) (cur := rest) rfl hn (by rw [splice_length hk, hl]) (ho.splice hv) (by rw [List.length_append, splice_length hk, hl, hr, ← Nat.add_mul]; congr 1; omega)
  exact this
theorem wp_storeE1 {rep : Ch → List Ch} (hp : a.eval x = .pointer (some (ea v k))) (hy : a.eval y = u) (hS : Sat w I L) [hi : HasRow L v E sz n xs rep] (hs : sizeB P t = some 1) (hk : k < xs.length) (h1 : u.oneCell' = true)
    (h : ∀ w', Sat w' I (rep (Row v E sz n (xs.set k u))) → K (a.put dst undef) w') : Oper.wp P ⟨dst, .store t x y, ty, pos, af, gd⟩ a w K Q := by
  have h0 : 0 < n := by
    obtain ⟨_, hl, _⟩ := hS.rowH (hi := hi)
    rcases Nat.eq_zero_or_pos n with e | e
    · subst e; simp at hl; simp [hl] at hk
    · exact e
  obtain ⟨w', hr, hS'⟩ := hS.setEl (hi := hi) (P := P) (t := t) (u := u) (vs := [u]) h0 (show k + 1 ≤ xs.length from hk) (fun q hq => by simp at hq; subst hq; exact h1) (by rw [one_cells h1]) hs
  rw [splice_one hk] at hS'
  unfold Oper.wp execOp
  simp only [hp, hy, Instr.storeAt, Instr.sureAddr, Sem.run_bind, Sem.run_pure, Result.andThen_ok, hr]
  exact h _ hS'
theorem wp_storeEN {rep : Ch → List Ch} {vs : List Value} (hp : a.eval x = .pointer (some (ea v k))) (hy : a.eval y = .agg vs.toArray) (hS : Sat w I L) [hi : HasRow L v E sz n xs rep] (hs : sizeB P t = some vs.length) (h0 : 0 < n) (hk : k + vs.length ≤ xs.length) (h1 : Oc vs)
    (h : ∀ w', Sat w' I (rep (Row v E sz n (splice xs k vs))) → K (a.put dst undef) w') : Oper.wp P ⟨dst, .store t x y, ty, pos, af, gd⟩ a w K Q := by
  obtain ⟨w', hr, hS'⟩ := hS.setEl (hi := hi) (P := P) (t := t) (u := .agg vs.toArray) (vs := vs) h0 hk h1 (by simp [Value.cells]) hs
  unfold Oper.wp execOp
  simp only [hp, hy, Instr.storeAt, Instr.sureAddr, Sem.run_bind, Sem.run_pure, Result.andThen_ok, hr]
  exact h _ hS'
/-- A store into a block whose cells are not written out. -/
theorem wp_store1s {rep : Ch → List Ch} (hp : a.eval x = .pointer (some ⟨b, k, none⟩)) (hy : a.eval y = u) (hS : Sat w I L) [hi : HasCells L b E cs rep] (hs : sizeB P t = some 1)
    (hk : k < cs.length) (h1 : u.oneCell' = true) (h : ∀ w', Sat w' I (rep (Cells b E (cs.set k u))) → K (a.put dst undef) w') :
    Oper.wp P ⟨dst, .store t x y, ty, pos, af, gd⟩ a w K Q := by
  refine wp_store1 hp hy hS hs (Nat.ble_eq_true_of_le hk) h1 ?_
  rw [← lset_eq]
  exact h
theorem wp_storeNs {rep : Ch → List Ch} {vs : List Value} (hp : a.eval x = .pointer (some ⟨b, k, none⟩)) (hy : a.eval y = .agg vs.toArray) (hS : Sat w I L) [hi : HasCells L b E cs rep] (hs : sizeB P t = some vs.length)
    (hk : k + vs.length ≤ cs.length) (h1 : Oc vs) (h : ∀ w', Sat w' I (rep (Cells b E (splice cs k vs))) → K (a.put dst undef) w') :
    Oper.wp P ⟨dst, .store t x y, ty, pos, af, gd⟩ a w K Q := by
  refine wp_storeN hp hy hS hs (Nat.ble_eq_true_of_le hk) ?_ h
  rw [List.all_eq_true]; exact h1
/-- An element of an array that lies in an element of a slice. -/
theorem ex_iaAE {el : TypeId} {kk : IntKind} {ix : Int} (hy : a.eval x = .pointer (some (ea v k))) (hx : a.eval y = .int kk ix) (hu : arrayB P t = some (n, el)) (hs : sizeB P el = some sz) (hv : IsSl v m) (hm : 0 < m) (h0 : 0 ≤ ix) (hn : ix < n) :
    Ex P a ⟨dst, .indexAddr t x y, ty, pos, af, gd⟩ w (.pointer (some (ea v (k + ix.toNat * sz)))) := ex_indexAddrA hy hx hu hs h0 hn (ea_add hv hm rfl)

theorem fillsPair {z0 : Value} {zs vs : List Value} (hx : a.eval x = u) (hy : a.eval y = .agg vs.toArray) (h1 : u.oneCell' = true) (hl : vs.length = n) (hz : zs.length = n) :
    Fills a (fun i => [(0, 1), (1, n)][i]?) [(0, x), (1, y)] (z0 :: zs) (u :: vs) := by
  refine ⟨0, 1, u, [u], rfl, hx, by rw [one_cells h1], rfl, by simp, 1, n, _, vs, rfl, hy, by simp [Value.cells], hl, ?_, ?_⟩
  · simp [splice, hl, hz]; omega
  · simp [splice, hl, hz, Fills]; omega
theorem byteV_all (bs : List UInt8) : (bs.map byteV).all Value.oneCell' = true := by
  rw [List.all_eq_true]; intro v hv; obtain ⟨c, _, rfl⟩ := List.mem_map.1 hv; rfl
theorem byteV_Oc (bs : List UInt8) : Oc (bs.map byteV) := Oc.of_all (byteV_all bs)
instance HasTail.past {M N K' : List Ch} [h : HasTail M N] : HasTail (K' ++ M) N := ⟨let ⟨X, e⟩ := h.has; ⟨K' ++ X, by rw [e]; simp⟩⟩
/-- What a slice holds, as far as the chunks L tell (or the immutable blocks). -/
def Rds (I : Gh) (L : List Ch) (v : Value) (xs : List Value) : Prop := ∀ w X, Sat w I (X ++ L) → RdS w v xs
theorem Rds.rd [ht : HasTail M L] (h : Rds I L v xs) (hS : Sat w I M) : RdS w v xs := by
  obtain ⟨X, e⟩ := ht.has
  subst e
  exact h w X hS
theorem Rds.le {N : List Ch} [ht : HasTail N L] (h : Rds I L v xs) : Rds I N v xs := by
  obtain ⟨X, e⟩ := ht.has
  subst e
  intro w Y hS
  refine h w (Y ++ X) ?_
  rwa [List.append_assoc]
theorem Rds.row : Rds I (Row v E sz n xs :: L) v xs := fun w X hS => (hS.row (E := E) (sz := sz) (n := n) (xs := xs) X.length (by simp)).2.2.1
theorem Rds.at (i : Nat) (hi : L[i]? = some (Row v E sz n xs)) : Rds I L v xs := fun w X hS => (hS.row (E := E) (sz := sz) (n := n) (xs := xs) (X.length + i) (by rw [List.getElem?_append_right (Nat.le_add_right _ _), Nat.add_sub_cancel_left]; exact hi)).2.2.1
theorem SlI.rds (h : SlI I v n xs) : Rds I L v xs := fun w X hS => hS.rdSI h
/-- A whole block of one value. -/
theorem ldW {rep : Ch → List Ch} (hS : Sat w I L) [hi : HasCells L b E cs rep] (hk : kindB P t = some true) (hs : sizeB P t = some n) (hn : cs.length = n) : (loadVar t ⟨b, 0, none⟩).run P w = .ok (.agg cs.toArray) w := by
  have := ldN (t := t) (k := 0) (n := n) hS (hi := hi) hk hs (Nat.ble_eq_true_of_le (by omega))
  rwa [sub_all hn] at this
theorem ldNs {rep : Ch → List Ch} (hS : Sat w I L) [hi : HasCells L b E cs rep] (hk : kindB P t = some true) (hs : sizeB P t = some n) (hy : sub cs k n = ys) (hn : ys.length = n) (h0 : 0 < n) : (loadVar t ⟨b, k, none⟩).run P w = .ok (.agg ys.toArray) w := by
  have h1 : k + n ≤ cs.length := by
    rw [← hy] at hn
    simp [sub] at hn
    omega
  have := ldN (t := t) (k := k) (n := n) hS (hi := hi) hk hs (Nat.ble_eq_true_of_le h1)
  rwa [hy] at this
/-- A store over a whole block. -/
theorem wp_storeW {rep : Ch → List Ch} {vs : List Value} (hp : a.eval x = .pointer (some ⟨b, 0, none⟩)) (hy : a.eval y = .agg vs.toArray) (hS : Sat w I L) [hi : HasCells L b E cs rep] (hs : sizeB P t = some n)
    (h2 : vs.length = n) (h3 : cs.length = n) (h1 : Oc vs) (h : ∀ w', Sat w' I (rep (Cells b E vs)) → K (a.put dst undef) w') :
    Oper.wp P ⟨dst, .store t x y, ty, pos, af, gd⟩ a w K Q := by
  subst h2
  refine wp_storeNs hp hy hS hs (by omega) h1 ?_
  rw [splice_all h3]
  exact h
theorem zeroOf {zv : Value} (h : (P.info? t).bind (·.zero) = some zv) : ∀ w : World, (zeroValue t).run P w = .ok zv w := by
  intro w
  cases hi : P.info? t with
  | none => rw [hi] at h; cases h
  | some i =>
    rw [hi] at h
    simp only [Option.bind_some] at h
    simp [zeroValue, typeInfo, hi, h]
theorem Sat.cellsRow (hS : Sat w I (Cells b E xs :: L)) (hl : xs.length = n) (ho : Oc xs) (hm : n ≤ maxLen) : Sat w I (Row (.slice (some ⟨b, 0, none⟩) n n) E 1 n xs :: L) :=
  hS.head fun f hf => ⟨⟨by simp [hl], ho⟩, .inr ⟨b, n, [], rfl, Nat.le_refl _, hm, by simp, by simpa [Blk, Cells] using hf⟩⟩
theorem Sat.anti (h : Sat w J L) (hle : I.le J) : Sat w I L := by
  obtain ⟨⟨f, hf, hb⟩, him, a, t, u⟩ := h
  refine ⟨⟨f, hf, fun b o e => ⟨(hb b o e).1, ?_⟩⟩, fun b o e => him b o (hle.imm b o e), a.trans hle.os, t.trans hle.tape, u.trans hle.output⟩
  cases hi : I.imm b with
  | none => rfl
  | some o' => have := hle.imm b o' hi; rw [(hb b o e).2] at this; cases this
theorem Rds.mono (h : Rds I L v xs) (hle : I.le J) : Rds J L v xs := fun w X hS => h w X (hS.anti hle)
theorem Rds.cells : Rds I (Cells b E cs :: L) (.slice (some ⟨b, k, none⟩) n m) (cs.drop k) := by
  intro w X hS p n' c' e
  injection e with e1 _ _
  injection e1 with e1
  subst e1
  exact hS.cells (b := b) (E := E) (cs := cs) X.length (by simp) k
theorem IsSl.lit {p : Addr} {n c : Nat} (h : n ≤ c) : IsSl (.slice (some p) n c) n := ⟨_, _, rfl, h, fun e => by cases e⟩
theorem Rds.src (ht : Rds I L u news) [HasTail M L] (hS : Sat w I M) (hu : IsSl u m) (hl : news.length = m * sz) (ho : Oc news) : Src w u m sz news := ⟨hu, hl, ht.rd hS, ho⟩
/-- Freezing the chunk at a place. -/
theorem Sat.freezeAt (h : Sat w I L) (i : Nat) (hi : L[i]? = some (Row v E sz n xs)) : ∃ J, I.le J ∧ Sat w J (L.eraseIdx i) ∧ SlI J v n xs := (h.pull i hi).freezeRow
theorem ex_neqStrR {r : ByteArray} {yt : TypeId} (hx : a.eval x = .string r) (hy : a.eval y = .string r) : Ex P a ⟨dst, .binOp .neq t x y yt, ty, pos, af, gd⟩ w (.bool false) := by
  have := ex_neqStr (P := P) (dst := dst) (t := t) (ty := ty) (pos := pos) (af := af) (gd := gd) (w := w) (yt := yt) hx hy
  simpa using this
theorem ex_eqlStrR {r : ByteArray} {yt : TypeId} (hx : a.eval x = .string r) (hy : a.eval y = .string r) : Ex P a ⟨dst, .binOp .eql t x y yt, ty, pos, af, gd⟩ w (.bool true) := by
  have := ex_eqlStr (P := P) (dst := dst) (t := t) (ty := ty) (pos := pos) (af := af) (gd := gd) (w := w) (yt := yt) hx hy
  simpa using this
theorem Sat.dropAt (h : Sat w I L) (i : Nat) (hi : L[i]? = some c) : Sat w I (L.eraseIdx i) := (h.pull i hi).drop
def lsets : List Value → List Nat → List Value → List Value
  | l, t :: ts, v :: vs => lsets (lset l t v) ts vs
  | l, _, _ => l
theorem foldl_lsetsL : ∀ (ps : List Nat) (vs l : List Value), (ps.zip vs).foldl (fun tmps (x : Nat × Value) => tmps.setIfInBounds x.1 x.2) l.toArray = (lsets l ps vs).toArray
  | [], vs, l => by simp [lsets]
  | t :: ts, [], l => by simp [lsets]
  | t :: ts, v :: vs, l => by
    have := foldl_lsetsL ts vs (lset l t v)
    simp only [List.zip_cons_cons, List.foldl_cons, lsets]
    rw [← this, ← lset_eq]
    simp
theorem foldl_lsets (ps : List Nat) (vs l : List Value) : (ps.toArray.zip vs.toArray).foldl (fun tmps (x : Nat × Value) => tmps.setIfInBounds x.1 x.2) l.toArray = (lsets l ps vs).toArray := by
  rw [List.zip_toArray, ← foldl_lsetsL]
  simp
/-! arrays of bytes -/
theorem cell_byteV : (Extern.Stop.cell : UInt8 → Value) = byteV := rfl
theorem ex_eqlArr {el : TypeId} {yt : TypeId} {l r : List UInt8} (hx : a.eval x = v) (hy : a.eval y = u) (e1 : v = .agg (l.map byteV).toArray) (e2 : u = .agg (r.map byteV).toArray) (hu : arrayB P t = some (n, el)) (he : intB P el = some .u8) (hs : sizeB P el = some 1) (h1 : l.length = n) (h2 : r.length = n) (hg : P.eqGuardType P.depth t = false) :
    Ex P a ⟨dst, .binOp .eql t x y yt, ty, pos, af, gd⟩ w (.bool (l == r)) := by
  subst e1; subst e2
  unfold arrayB at hu
  split at hu
  case h_2 => cases hu
  rename_i n' el' hu'
  injection hu with hu; injection hu with e1 e2; subst e1; subst e2
  unfold intB at he
  split at he
  case h_2 => cases he
  rename_i kd' he'
  injection he with he; subst he
  have := run_eql_bytes (P := P) w t el' n' hu' he' (fun w => run_sizeOf hs w) l r h1 h2
  rw [cell_byteV] at this
  unfold Ex execOp
  simp [eqGuard, hx, hy, this, hg]
theorem rep_byte (n : Nat) : SL.rep n [.int .u8 0] = (List.replicate n (0 : UInt8)).map byteV := by
  rw [rep_one]; simp [byteV]
theorem ex_xor8 {c1 c2 : UInt8} {yt : TypeId} (hx : a.eval x = byteV c1) (hy : a.eval y = byteV c2) : Ex P a ⟨dst, .binOp .xor t x y yt, ty, pos, af, gd⟩ w (byteV (c1 ^^^ c2)) := by
  unfold Ex execOp
  have e : IntKind.u8.wrap (BitVec.ofInt IntKind.u8.bits (c1.toNat : Int) ^^^ BitVec.ofInt IntKind.u8.bits (c2.toNat : Int)).toNat = ((c1 ^^^ c2).toNat : Int) := by
    show IntKind.u8.wrap ((BitVec.ofInt 8 (c1.toNat : Int) ^^^ BitVec.ofInt 8 (c2.toNat : Int)).toNat : Int) = _
    have key : ∀ c : UInt8, BitVec.ofInt 8 (c.toNat : Int) = c.toBitVec := by
      intro c
      apply BitVec.eq_of_toNat_eq
      have := c.toNat_lt
      simp
    rw [key, key, show (c1.toBitVec ^^^ c2.toBitVec).toNat = (c1 ^^^ c2).toNat from by simp]
    have := (c1 ^^^ c2).toNat_lt
    exact IntWalk.u8_in _ (by omega)
  simp only [byteV] at hx hy
  simp [eqGuard, hx, hy, binOp, Op.intBits, byteV]
  exact e

/-! slices of slices -/
def slv (v : Value) (l h sz : Nat) : Value := match v with | .slice q _ cap => .slice (if cap = l then q else q.map (·.add (l * sz))) (h - l) (cap - l) | _ => v
theorem IsSl.slv {l h : Nat} (hv : IsSl v n) (h1 : l ≤ h) (h2 : h ≤ n) : IsSl (slv v l h sz) (h - l) := by
  obtain ⟨q, cap, rfl, hn, hq⟩ := hv.ex
  refine ⟨_, _, rfl, by omega, ?_⟩
  intro e
  have : q = none := by
    split at e
    · exact e
    · cases q <;> simp at e ⊢
  have := hq this
  omega
theorem RdS.slv {l h : Nat} (hr : RdS w v xs) (hv : IsSl v n) (h1 : l ≤ h) (h2 : h ≤ n) : RdS w (slv v l h sz) (sub xs (l * sz) ((h - l) * sz)) := by
  obtain ⟨q, cap, rfl, hn, hq⟩ := hv.ex
  intro p m c e
  simp only [SL.slv] at e
  injection e with e1 _ _
  split at e1
  · rename_i hc
    have : h - l = 0 := by omega
    rw [this]
    intro j u hu
    simp [sub] at hu
  · cases q with
    | none => cases e1
    | some q =>
      simp only [Option.map_some, Option.some.injEq] at e1
      subst e1
      exact ((hr _ _ _ rfl).drop _).take _
theorem SlI.slv {l h : Nat} (hi : SlI I v n xs) (h1 : l ≤ h) (h2 : h ≤ n) : SlI I (slv v l h sz) (h - l) (sub xs (l * sz) ((h - l) * sz)) := by
  refine ⟨hi.is.slv h1 h2, fun u hu => hi.oc u ?_, ?_⟩
  · simp only [sub] at hu; exact List.mem_of_mem_drop (List.mem_of_mem_take hu)
  obtain ⟨q, cap, rfl, hn, hq⟩ := hi.is.ex
  intro p m c e
  simp only [SL.slv] at e
  injection e with e1 _ _
  split at e1
  · rename_i hc
    have : h - l = 0 := by omega
    rw [this]
    intro j u hu
    simp [sub] at hu
  · cases q with
    | none => cases e1
    | some q =>
      simp only [Option.map_some, Option.some.injEq] at e1
      subst e1
      intro j u hu
      have hj : j < (h - l) * sz := by
        have : j < (sub xs (l * sz) ((h - l) * sz)).length := by
          rcases Nat.lt_or_ge j (sub xs (l * sz) ((h - l) * sz)).length with h | h
          · exact h
          · rw [List.getElem?_eq_none h] at hu; cases hu
        simp [sub] at this; omega
      have := hi.rd _ _ _ rfl (l * sz + j) u (by
        simp only [sub, List.getElem?_take, hj, if_true, List.getElem?_drop] at hu
        exact hu)
      rw [Addr.add_add]
      exact this
theorem run_sliceBound {k1 : IntKind} {li : Int} {yy : Nat} {code : BoundsCode} (h0 : 0 ≤ li) (h1 : li ≤ yy) : (Instr.sliceBound (.int k1 li) yy code).run P w = .ok li.toNat w := by
  simp [Instr.sliceBound, h0, h1, go_sem]
theorem ex_sliceLH {el : TypeId} {k1 k2 : IntKind} {li hi' : Int} (hx : a.eval x = v) (hy : a.eval y = .int k1 li) (hz : a.eval z = .int k2 hi') (hu : sliceB P t = some el) (hs : sizeB P el = some sz) (hv : IsSl v n) (h0 : 0 ≤ li) (h1 : li ≤ hi') (h2 : hi' ≤ n) :
    Ex P a ⟨dst, .slice t x (some y) (some z) none, ty, pos, af, gd⟩ w (slv v li.toNat hi'.toNat sz) := by
  obtain ⟨q, cap, rfl, hn, hq⟩ := hv.ex
  unfold sliceB at hu
  split at hu
  case h_2 => cases hu
  rename_i el' hu'
  injection hu with hu; subst hu
  unfold Ex execOp
  have e1 : (Instr.sliceBound (.int k2 hi') cap .sliceAcap).run P w = .ok hi'.toNat w := run_sliceBound (by omega) (by omega)
  have e2 : (Instr.sliceBound (.int k1 li) hi'.toNat .sliceB).run P w = .ok li.toNat w := run_sliceBound h0 (by omega)
  simp [Instr.sliceAt, Instr.slice, run_underlying hu', hx, hy, hz, Instr.sliceBounds, e1, e2, run_sizeOf hs, slv]
theorem ex_sliceH {el : TypeId} {k2 : IntKind} {hi' : Int} (hx : a.eval x = v) (hz : a.eval z = .int k2 hi') (hu : sliceB P t = some el) (hs : sizeB P el = some sz) (hv : IsSl v n) (h1 : 0 ≤ hi') (h2 : hi' ≤ n) :
    Ex P a ⟨dst, .slice t x none (some z) none, ty, pos, af, gd⟩ w (slv v 0 hi'.toNat sz) := by
  obtain ⟨q, cap, rfl, hn, hq⟩ := hv.ex
  unfold sliceB at hu
  split at hu
  case h_2 => cases hu
  rename_i el' hu'
  injection hu with hu; subst hu
  unfold Ex execOp
  have e1 : (Instr.sliceBound (.int k2 hi') cap .sliceAcap).run P w = .ok hi'.toNat w := run_sliceBound (by omega) (by omega)
  simp [Instr.sliceAt, Instr.slice, run_underlying hu', hx, hz, Instr.sliceBounds, e1, run_sizeOf hs, slv]
theorem ex_sliceL {el : TypeId} {k1 : IntKind} {li : Int} (hx : a.eval x = v) (hy : a.eval y = .int k1 li) (hu : sliceB P t = some el) (hs : sizeB P el = some sz) (hv : IsSl v n) (h0 : 0 ≤ li) (h1 : li ≤ n) :
    Ex P a ⟨dst, .slice t x (some y) none none, ty, pos, af, gd⟩ w (slv v li.toNat n sz) := by
  obtain ⟨q, cap, rfl, hn, hq⟩ := hv.ex
  unfold sliceB at hu
  split at hu
  case h_2 => cases hu
  rename_i el' hu'
  injection hu with hu; subst hu
  unfold Ex execOp
  have e2 : (Instr.sliceBound (.int k1 li) n .sliceB).run P w = .ok li.toNat w := run_sliceBound h0 (by omega)
  simp [Instr.sliceAt, Instr.slice, run_underlying hu', hx, hy, Instr.sliceBounds, e2, run_sizeOf hs, slv]
/-- 'x[:h]' of an array. -/
theorem ex_sliceAH {el : TypeId} {k2 : IntKind} {hi' : Int} (hx : a.eval x = .pointer (some p)) (hz : a.eval z = .int k2 hi') (hu : arrayB P t = some (n, el)) (hs : sizeB P el = some sz) (h1 : 0 ≤ hi') (h2 : hi' ≤ n) :
    Ex P a ⟨dst, .slice t x none (some z) none, ty, pos, af, gd⟩ w (.slice (some p) hi'.toNat n) := by
  unfold arrayB at hu
  split at hu
  case h_2 => cases hu
  rename_i n' el' he
  injection hu with hu; injection hu with e1 e2; subst e1; subst e2
  have e1 : (Instr.sliceBound (.int k2 hi') n' .sliceAlen).run P w = .ok hi'.toNat w := run_sliceBound h1 (by omega)
  unfold Ex execOp
  simp [Instr.sliceAt, run_underlying he, hx, hz, Instr.sureAddr, Instr.sliceBounds, e1, run_sizeOf hs, Addr.add_zero']
/-- 'copy' from one block to another, both from their start. -/
theorem wp_copyA {el : TypeId} {rep rep2 : Ch → List Ch} {dT sT : TypeId} {ds : List Value} {E2 : TypeId} {c1 c2 : Nat} (hx : a.eval x = .slice (some ⟨b, 0, none⟩) n c1) (hy : a.eval y = .slice (some ⟨b', 0, none⟩) n c2) (hu : sliceB P dT = some el) (hs : sizeB P el = some 1)
    (hS : Sat w I L) [hi : HasCells L b E cs rep] [hj : HasCells L b' E2 ds rep2] (h1 : n ≤ cs.length) (h2 : n ≤ ds.length) (ho : Oc ds)
    (h : ∀ w', Sat w' I (rep (Cells b E (ds.take n ++ cs.drop n))) → K (a.put dst (.int .i64 n)) w') :
    Oper.wp P ⟨dst, .call ⟨.builtin .copy, #[x, y], #[dT, sT]⟩, ty, pos, af, gd⟩ a w K Q := by
  unfold sliceB at hu
  split at hu
  case h_2 => cases hu
  rename_i el' hu'
  injection hu with hu; subst hu
  have hrd := (Rd.of_block (k := 0) (hS.blkH (hi := hj))).take n
  rw [List.drop_zero] at hrd
  have hl : (ds.take n).length = n := by simp [h2]
  have hr := run_copy_row (P := P) w dT sT ty el' b 0 n c1 ⟨b', 0, none⟩ n c2 cs.toArray E (ds.take n) hu' hs (hS.blkH (hi := hi)) (by rw [hl]; exact (Nat.min_self n).symm) hrd (by rw [hl]; simpa using h1) (fun v hv => ho v (List.mem_of_mem_take hv))
  rw [hl] at hr
  simp only [Nat.zero_add, List.take_zero, List.nil_append] at hr
  have := h _ (hS.setRow (hi := hi) (ds.take n ++ cs.drop n))
  unfold Oper.wp execOp
  simp only [resolve, invoke, builtin, Sem.run_bind, Sem.run_pure, Result.andThen_ok, List.map_toArray, List.map_cons, List.map_nil, hx, hy, hr]
  exact this
end
end Go.SL
