/- A spool, as plain data. -/
import Derived.Test.YtggkomlobfpapaaSLC
set_option linter.unusedVariables false
set_option linter.unusedSimpArgs false
namespace Go.SL
open Go.RowKit
/-- An identity: 32 bytes. -/
abbrev Id32 := {l : List UInt8 // l.length = 32}
def idC (i : Id32) : List Value := i.1.map byteV
def idV (i : Id32) : Value := .agg (i.1.map byteV).toArray
theorem idC_len (i : Id32) : (idC i).length = 32 := by simp [idC, i.2]
theorem elId : ElT idC 32 := ⟨idC_len, fun i => byteV_Oc _⟩
def okT {α : Type} (_ : α) : Prop := True
theorem run_eqId {P : Program} {kt el : TypeId} (hu : P.underlying kt = some (.array 32 el)) (he : P.underlying el = some (.int .u8)) (hs : sizeB P el = some 1) (w : World) (j k : Id32) : (Op.equal kt (idV j) (idV k)).run P w = .ok (@BEq.beq Id32 instBEqOfDecidableEq j k) w := by
  have h1 := run_equalIn_bytes (P := P) w 9998 kt el 32 hu he (fun w => run_sizeOf hs w) j.1 k.1 j.2 k.2
  have h2 : (@BEq.beq (List UInt8) List.instBEq j.1 k.1) = (@BEq.beq Id32 instBEqOfDecidableEq j k) := by
    rw [Bool.eq_iff_iff]
    simp only [beq_iff_eq]
    exact Subtype.ext_iff.symm
  rw [h2] at h1
  exact h1
theorem keyT_id {P : Program} {kt el : TypeId} (hu : P.underlying kt = some (.array 32 el)) (he : P.underlying el = some (.int .u8)) (hs : sizeB P el = some 1) : KeyT P kt idV okT := by
  have hb := keyT_bytes (n := 32) hu he hs
  exact KeyT.of_eq (by rw [hu]) (fun w j k _ _ => run_eqId hu he hs w j k) (fun w q j _ => hb.check w q j.1 j.2) (fun j _ => hb.stays j.1 j.2)
section
variable {P : Program} {w : World} {a : Act} {dst : Option Tmp} {x y : Operand} {t ty yt el : TypeId} {pos : String} {af : Array Edge} {gd : Option (Nat × Bool)} {v u : Value} {i j : Id32}
theorem ex_eqlId {r : Bool} (hx : a.eval x = v) (hy : a.eval y = u) (e1 : v = idV i) (e2 : u = idV j) (hr : decide (i = j) = r) (hu : arrayB P t = some (32, el)) (he : intB P el = some .u8) (hs : sizeB P el = some 1) (hg : P.eqGuardType P.depth t = false) :
    Ex P a ⟨dst, .binOp .eql t x y yt, ty, pos, af, gd⟩ w (.bool r) := by
  have := ex_eqlArr (dst := dst) (ty := ty) (pos := pos) (af := af) (gd := gd) (w := w) (yt := yt) hx hy e1 e2 hu he hs i.2 j.2 hg
  have e : (i.1 == j.1) = r := by
    rw [← hr, Bool.eq_iff_iff]
    simp only [beq_iff_eq, decide_eq_true_eq]
    exact Subtype.ext_iff.symm
  rwa [e] at this
theorem ex_neqId {r : Bool} (hx : a.eval x = v) (hy : a.eval y = u) (e1 : v = idV i) (e2 : u = idV j) (hr : (!decide (i = j)) = r) (hu : arrayB P t = some (32, el)) (he : intB P el = some .u8) (hs : sizeB P el = some 1) (hg : P.eqGuardType P.depth t = false) :
    Ex P a ⟨dst, .binOp .neq t x y yt, ty, pos, af, gd⟩ w (.bool r) := by
  have := ex_neqArr (dst := dst) (ty := ty) (pos := pos) (af := af) (gd := gd) (w := w) (yt := yt) hx hy e1 e2 hu he hs i.2 j.2 hg
  have e : (i.1 != j.1) = r := by
    rw [← hr, bne, Bool.eq_iff_iff]
    simp only [Bool.not_eq_true', beq_eq_false_iff_ne, ne_eq, decide_eq_false_iff_not]
    exact ⟨fun h e => h (congrArg Subtype.val e), fun h e => h (Subtype.ext e)⟩
  rwa [e] at this
end
theorem gGet_perm {α β : Type} [DecidableEq α] {kv kv' : List (α × β)} (h : kv.Perm kv') (hn : (kv.map Prod.fst).Nodup) (k : α) : gGet kv k = gGet kv' k := by
  have hm : ∀ (kv : List (α × β)) (v : β), (kv.map Prod.fst).Nodup → (gGet kv k = some v ↔ (k, v) ∈ kv) := by
    intro kv v
    induction kv with
    | nil => simp [gGet]
    | cons p r ih =>
      obtain ⟨j, u⟩ := p
      intro hn
      simp only [List.map_cons, List.nodup_cons] at hn
      simp only [gGet]
      by_cases hj : j = k
      · subst hj
        rw [if_pos rfl]
        simp only [Option.some.injEq, List.mem_cons, Prod.mk.injEq, true_and]
        constructor
        · intro h; exact .inl h.symm
        · rintro (h | h)
          · exact h.symm
          · exact absurd (List.mem_map.2 ⟨_, h, rfl⟩) hn.1
      · rw [if_neg hj, ih hn.2]
        simp only [List.mem_cons, Prod.mk.injEq]
        constructor
        · intro h; exact .inr h
        · rintro (⟨h, _⟩ | h)
          · exact absurd h.symm hj
          · exact h
  have hn' : (kv'.map Prod.fst).Nodup := (h.map Prod.fst).nodup_iff.1 hn
  apply Option.ext
  intro v
  rw [hm kv v hn, hm kv' v hn']
  exact h.mem_iff
end Go.SL
namespace Go.SP
open Go.SL Go.SS Go.RowKit
structure Art where
  id : Id32
  text : List UInt8
  min : Int
structure SpS where
  budget : Int
  arts : List Art
def artV (a : Art) : Value := .agg [Value.int .i64 a.min, .string ⟨a.text.toArray⟩].toArray
def artKV (a : Art) : Id32 × Value := (a.id, artV a)
def entC (a : Art) : List Value := idC a.id ++ [.int .i64 a.min, .int .i64 a.text.length]
theorem elEnt : ElT entC 34 := ⟨fun a => by simp [entC, idC_len], fun a => Oc.append (elId.oc a.id) (Oc.of_all rfl)⟩
def SpS.bytes (s : SpS) : Nat := (s.arts.map fun a => a.text.length).sum
def SpS.find (s : SpS) (i : Id32) : Option Art := s.arts.find? fun a => decide (a.id = i)
structure ArtOk (a : Art) : Prop where
  t1 : 1 ≤ a.text.length
  t2 : a.text.length ≤ 65536
  m1 : 0 ≤ a.min
  m2 : a.min ≤ 105190559
structure SpOk (s : SpS) : Prop where
  b1 : 1 ≤ s.budget
  b2 : s.budget ≤ 1073741824
  by_ : (s.bytes : Int) ≤ s.budget
  arts : ∀ a ∈ s.arts, ArtOk a
  nodup : (s.arts.map (·.id)).Nodup
theorem sum_ge : ∀ (l : List Art), (∀ a ∈ l, 1 ≤ a.text.length) → l.length ≤ (l.map fun a => a.text.length).sum
  | [], _ => by simp
  | a :: l, h => by
    have := sum_ge l (fun b hb => h b (by simp [hb]))
    have := h a (by simp)
    simp; omega
theorem SpOk.len {s : SpS} (h : SpOk s) : s.arts.length ≤ 1073741824 := by
  have h1 := sum_ge s.arts (fun a ha => (h.arts a ha).t1)
  have h2 := h.by_
  have h3 := h.b2
  unfold SpS.bytes at h2
  omega
theorem gGet_arts (i : Id32) : ∀ (l : List Art), gGet (l.map artKV) i = (l.find? fun a => decide (a.id = i)).map artV
  | [] => rfl
  | a :: l => by
    simp only [List.map_cons, gGet, artKV, List.find?_cons]
    by_cases h : a.id = i
    · simp [h]
    · rw [if_neg h, decide_eq_false h, ← gGet_arts i l]
def zeroId : Id32 := ⟨List.replicate 32 0, rfl⟩
def put (s : SpS) (a : Art) : SpS × Int :=
  if a.id = zeroId ∨ a.text = [] then (s, 1)
  else if 65536 < a.text.length then (s, 5)
  else if a.min < 0 ∨ 105190559 < a.min then (s, 2)
  else if (s.find a.id).isSome then (s, 7)
  else if s.budget < s.bytes + a.text.length then (s, 9)
  else (⟨s.budget, s.arts ++ [a]⟩, 0)
theorem put_ok {s : SpS} (h : SpOk s) (a : Art) : SpOk (put s a).1 := by
  unfold put
  split
  · exact h
  · split
    · exact h
    · split
      · exact h
      · split
        · exact h
        · split
          · exact h
          · rename_i h1 h2 h3 h4 h5
            have hb : SpS.bytes ⟨s.budget, s.arts ++ [a]⟩ = s.bytes + a.text.length := by simp [SpS.bytes]
            refine ⟨h.b1, h.b2, by rw [hb]; simp only; omega, ?_, ?_⟩
            · intro x hx
              rcases List.mem_append.1 hx with hx | hx
              · exact h.arts x hx
              · simp at hx; subst hx
                have : x.text ≠ [] := fun e => h1 (.inr e)
                have := List.length_pos_iff.2 this
                exact ⟨by omega, by omega, by omega, by omega⟩
            · simp only [List.map_append, List.map_cons, List.map_nil]
              refine List.nodup_append.2 ⟨h.nodup, by simp, ?_⟩
              intro x hx y hy e
              simp at hy
              subst hy; subst e
              obtain ⟨b, hb, hbe⟩ := List.mem_map.1 hx
              apply h4
              unfold SpS.find
              rw [List.find?_isSome]
              exact ⟨b, hb, by simpa using hbe⟩
def less (a b : Art) : Bool := decide (a.min < b.min)
theorem less_ord : Ord less := ⟨fun x y z h1 h2 => by simp [less] at *; omega, fun x y h => by simp only [less, decide_eq_true_eq, decide_eq_false_iff_not] at *; omega⟩
/-- The articles that must go, so that so many bytes are free. -/
def takeFree (need : Int) : Int → List Art → List Art
  | _, [] => []
  | free, a :: l => if need ≤ free then [] else a :: takeFree need (free + a.text.length) l
def oldest (s : SpS) (need : Int) : List Id32 × Int :=
  if need < 0 then ([], 2) else if s.budget < need then ([], 9) else ((takeFree need (s.budget - s.bytes) (ssort less s.arts)).map (·.id), 0)
end Go.SP
