/- Laws that the proofs share, brought together out of several texts. -/
import Derived.WalkKit
import Derived.WalkSpells
import Derived.WalkLawsBesides
import Derived.Stop.BytesEq
import Derived.DeepKeys3
import Derived.RangeFuncLeaves
import Derived.RangeFuncIn
import Derived.RangeFuncRecord
import Derived.TacticsIn
import Derived.KernelRfl
set_option linter.unusedVariables false
set_option linter.unusedSimpArgs false

/- The base of the proofs: a heap predicate 'Sat w I L': the world w holds the blocks that the chunks L own, apart from one another, and the immutable blocks of I. -/
namespace Go.SL
open Go.RowKit

abbrev Fp := Nat → Option Obj
abbrev Ch := Fp → Prop

structure Gh where
  os : Os
  tape : Nat → Question → Nat
  output : Array (Nat × ByteArray)
  imm : Fp

structure Gh.le (I J : Gh) : Prop where
  os : J.os = I.os
  tape : J.tape = I.tape
  output : J.output = I.output
  imm : ∀ b o, I.imm b = some o → J.imm b = some o

theorem Gh.le.refl (I : Gh) : I.le I := ⟨rfl, rfl, rfl, fun _ _ h => h⟩
theorem Gh.le.trans {I J K : Gh} (h : I.le J) (k : J.le K) : I.le K :=
  ⟨k.os.trans h.os, k.tape.trans h.tape, k.output.trans h.output, fun b o e => k.imm b o (h.imm b o e)⟩

def Fp.Disj (f g : Fp) : Prop := ∀ b, f b = none ∨ g b = none
def Fp.join (f g : Fp) : Fp := fun b => (f b).or (g b)
def Fp.emp : Fp := fun _ => none

theorem Fp.Disj.symm {f g : Fp} (h : Fp.Disj f g) : Fp.Disj g f := fun b => (h b).symm
theorem Fp.join_comm {f g : Fp} (h : Fp.Disj f g) : Fp.join f g = Fp.join g f := by
  funext b; simp only [Fp.join]; rcases h b with e | e <;> rw [e] <;> simp
theorem Fp.join_assoc (f g k : Fp) : Fp.join (Fp.join f g) k = Fp.join f (Fp.join g k) := by
  funext b; simp [Fp.join, Option.or_assoc]
theorem Fp.disj_join {f g k : Fp} : Fp.Disj f (Fp.join g k) ↔ Fp.Disj f g ∧ Fp.Disj f k := by
  simp only [Fp.Disj, Fp.join]
  constructor
  · intro h; constructor <;> intro b <;> have := h b <;> cases hf : f b <;> simp_all
  · rintro ⟨h, k'⟩ b; have := h b; have := k' b; cases hf : f b <;> simp_all
theorem Fp.join_disj {f g k : Fp} : Fp.Disj (Fp.join g k) f ↔ Fp.Disj g f ∧ Fp.Disj k f :=
  ⟨fun h => let ⟨a, b⟩ := Fp.disj_join.1 h.symm; ⟨a.symm, b.symm⟩, fun ⟨a, b⟩ => (Fp.disj_join.2 ⟨a.symm, b.symm⟩).symm⟩
theorem Fp.join_emp (f : Fp) : Fp.join f Fp.emp = f := by funext b; simp [Fp.join, Fp.emp]
theorem Fp.emp_join (f : Fp) : Fp.join Fp.emp f = f := by funext b; simp [Fp.join, Fp.emp]
theorem Fp.emp_disj (f : Fp) : Fp.Disj Fp.emp f := fun _ => .inl rfl

def Holds : List Ch → Fp → Prop
  | [], _ => True
  | c :: L, f => ∃ g h, Fp.Disj g h ∧ f = Fp.join g h ∧ c g ∧ Holds L h

theorem Holds.perm {L M : List Ch} (p : L.Perm M) : ∀ {f}, Holds L f → Holds M f := by
  induction p with
  | nil => exact fun h => h
  | cons c _ ih => rintro f ⟨g, h, d, e, hc, hh⟩; exact ⟨g, h, d, e, hc, ih hh⟩
  | swap c d L =>
    rintro f ⟨g, h, dj, e, hd, g', h', dj', e', hc, hL⟩
    subst e'
    obtain ⟨d1, d2⟩ := Fp.disj_join.1 dj
    refine ⟨g', Fp.join g h', ?_, ?_, hc, g, h', d2, rfl, hd, hL⟩
    · exact Fp.disj_join.2 ⟨d1.symm, dj'⟩
    · rw [e, ← Fp.join_assoc, ← Fp.join_assoc, Fp.join_comm d1]
  | trans _ _ i1 i2 => exact fun h => i2 (i1 h)

structure Sat (w : World) (I : Gh) (L : List Ch) : Prop where
  ex : ∃ f, Holds L f ∧ ∀ b o, f b = some o → w.heap[b]? = some o ∧ I.imm b = none
  imm : ∀ b o, I.imm b = some o → w.heap[b]? = some o
  os : w.os = I.os
  tape : w.tape = I.tape
  output : w.output = I.output

section
variable {w w' : World} {I J : Gh} {L M : List Ch} {c d : Ch} {b b' : Nat} {o o' : Obj}

def Blk (b : Nat) (o : Obj) : Ch := fun f => f b = some o
def Cells (b : Nat) (E : TypeId) (cs : List Value) : Ch := Blk b (.cells cs.toArray E (0, 0))
def Star (L : List Ch) : Ch := Holds L

theorem Sat.perm (h : Sat w I L) (p : L.Perm M) : Sat w I M :=
  ⟨let ⟨f, a, b⟩ := h.ex; ⟨f, a.perm p, b⟩, h.imm, h.os, h.tape, h.output⟩
theorem Sat.map (h : Sat w I L) (p : ∀ f, Holds L f → Holds M f) : Sat w I M :=
  ⟨let ⟨f, a, b⟩ := h.ex; ⟨f, p f a, b⟩, h.imm, h.os, h.tape, h.output⟩
theorem Sat.head (h : Sat w I (c :: L)) (p : ∀ f, c f → d f) : Sat w I (d :: L) :=
  h.map fun _ ⟨g, k, a, e, x, y⟩ => ⟨g, k, a, e, p _ x, y⟩
theorem Sat.drop (h : Sat w I (c :: L)) : Sat w I L := by
  obtain ⟨⟨f, ⟨g, k, dj, e, hc, hL⟩, hf⟩, hi, a, b, c⟩ := h
  refine ⟨⟨k, hL, fun b o hb => hf b o ?_⟩, hi, a, b, c⟩
  subst e
  rcases dj b with e | e
  · simp [Fp.join, e, hb]
  · rw [e] at hb; cases hb
theorem Sat.nil (h : Sat w I L) : Sat w I [] := ⟨let ⟨f, _, b⟩ := h.ex; ⟨f, trivial, b⟩, h.imm, h.os, h.tape, h.output⟩
theorem Sat.swap (h : Sat w I (c :: d :: L)) : Sat w I (d :: c :: L) := h.perm (List.Perm.swap ..)
theorem Sat.ex_head {α : Sort _} {k : α → Ch} (h : Sat w I ((fun f => ∃ x, k x f) :: L)) : ∃ x, Sat w I (k x :: L) := by
  obtain ⟨⟨f, ⟨g, m, dj, e, ⟨x, hc⟩, hL⟩, hf⟩, r1, r2, r3, r4⟩ := h
  exact ⟨x, ⟨⟨f, ⟨g, m, dj, e, hc, hL⟩, hf⟩, r1, r2, r3, r4⟩⟩
theorem Sat.and_head {p : Prop} (h : Sat w I ((fun f => p ∧ c f) :: L)) : p ∧ Sat w I (c :: L) := by
  obtain ⟨⟨f, ⟨g, m, dj, e, ⟨hp, hc⟩, hL⟩, hf⟩, r1, r2, r3, r4⟩ := h
  exact ⟨hp, ⟨⟨f, ⟨g, m, dj, e, hc, hL⟩, hf⟩, r1, r2, r3, r4⟩⟩
theorem Holds.append {f : Fp} : Holds (L ++ M) f ↔ ∃ g h, Fp.Disj g h ∧ f = Fp.join g h ∧ Holds L g ∧ Holds M h := by
  induction L generalizing f with
  | nil =>
    constructor
    · intro h; exact ⟨Fp.emp, f, Fp.emp_disj _, (Fp.emp_join f).symm, trivial, h⟩
    · rintro ⟨g, h, dj, e, _, hM⟩
      -- what is left over is let go of
      have key : ∀ (N : List Ch) (g h : Fp), Fp.Disj g h → Holds N h → Holds N (Fp.join g h) := by
        intro N
        induction N with
        | nil => intros; trivial
        | cons c N ih =>
          rintro g h dj ⟨x, y, dxy, e, hc, hN⟩
          subst e
          obtain ⟨d1, d2⟩ := Fp.disj_join.1 dj
          refine ⟨x, Fp.join g y, Fp.disj_join.2 ⟨d1.symm, dxy⟩, ?_, hc, ih g y d2 hN⟩
          rw [← Fp.join_assoc, Fp.join_comm d1, Fp.join_assoc]
      subst e
      exact key M g h dj hM
  | cons c L ih =>
    constructor
    · rintro ⟨g, h, dj, e, hc, hLM⟩
      obtain ⟨x, y, dxy, e', hL, hM⟩ := ih.1 hLM
      subst e'
      obtain ⟨d1, d2⟩ := Fp.disj_join.1 dj
      exact ⟨Fp.join g x, y, Fp.join_disj.2 ⟨d2, dxy⟩, by rw [e, Fp.join_assoc], ⟨g, x, d1, rfl, hc, hL⟩, hM⟩
    · rintro ⟨g, h, dj, e, ⟨x, y, dxy, e', hc, hL⟩, hM⟩
      subst e'
      obtain ⟨d1, d2⟩ := Fp.join_disj.1 dj
      exact ⟨x, Fp.join y h, Fp.disj_join.2 ⟨dxy, d1⟩, by rw [e, Fp.join_assoc], hc, ih.2 ⟨y, h, d2, rfl, hL, hM⟩⟩
theorem Sat.star (h : Sat w I (Star L :: M)) : Sat w I (L ++ M) :=
  h.map fun _ ⟨g, k, dj, e, a, b⟩ => Holds.append.2 ⟨g, k, dj, e, a, b⟩
theorem Sat.unstar (h : Sat w I (L ++ M)) : Sat w I (Star L :: M) :=
  h.map fun _ x => let ⟨g, k, dj, e, a, b⟩ := Holds.append.1 x; ⟨g, k, dj, e, a, b⟩
theorem Sat.mk_ex {α : Sort _} {k : α → Ch} (x : α) (h : Sat w I (k x :: L)) : Sat w I ((fun f => ∃ x, k x f) :: L) := h.head fun _ y => ⟨x, y⟩
theorem Sat.mk_and {p : Prop} (hp : p) (h : Sat w I (c :: L)) : Sat w I ((fun f => p ∧ c f) :: L) := h.head fun _ y => ⟨hp, y⟩

/-- The chunk at a place, brought to the front. -/
theorem perm_pull {α : Type _} : ∀ {L : List α} {i : Nat} {c : α}, L[i]? = some c → L.Perm (c :: L.eraseIdx i)
  | [], _, _, h => by simp at h
  | x :: L, 0, c, h => by simp at h; subst h; exact List.Perm.refl _
  | x :: L, i + 1, c, h => by
    have := perm_pull (L := L) (i := i) (c := c) (by simpa using h)
    exact (List.Perm.cons x this).trans (List.Perm.swap ..)
theorem perm_set {α : Type _} : ∀ {L : List α} {i : Nat} {c d : α}, L[i]? = some c → (L.set i d).Perm (d :: L.eraseIdx i)
  | [], _, _, _, h => by simp at h
  | x :: L, 0, c, d, h => by simp
  | x :: L, i + 1, c, d, h => by
    have := perm_set (L := L) (i := i) (c := c) (d := d) (by simpa using h)
    exact (List.Perm.cons x this).trans (List.Perm.swap ..)
theorem Sat.pull (h : Sat w I L) (i : Nat) (hi : L[i]? = some c) : Sat w I (c :: L.eraseIdx i) := h.perm (perm_pull hi)
theorem Sat.push (i : Nat) (hi : L[i]? = some c) (h : Sat w I (d :: L.eraseIdx i)) : Sat w I (L.set i d) := h.perm (perm_set hi).symm

theorem Sat.blk0 (h : Sat w I (Blk b o :: L)) : w.heap[b]? = some o := by
  obtain ⟨⟨f, ⟨g, m, dj, e, hc, hL⟩, hf⟩, _⟩ := h
  exact (hf b o (by rw [e]; simp only [Fp.join]; rw [show g b = some o from hc]; rfl)).1
theorem Sat.blk (h : Sat w I L) (i : Nat) (hi : L[i]? = some (Blk b o)) : w.heap[b]? = some o := (h.pull i hi).blk0
theorem Sat.blk_ne (h : Sat w I (Blk b o :: Blk b' o' :: L)) : b ≠ b' := by
  rintro rfl
  obtain ⟨⟨f, ⟨g, m, dj, e, hc, g', m', dj', e', hc', hL⟩, hf⟩, _⟩ := h
  have h1 : g b = some o := hc
  have h2 : g' b = some o' := hc'
  subst e'
  rcases dj b with x | x
  · rw [h1] at x; cases x
  · simp [Fp.join, h2] at x
theorem Sat.blk_imm (h : Sat w I (Blk b o :: L)) : I.imm b = none := by
  obtain ⟨⟨f, ⟨g, m, dj, e, hc, hL⟩, hf⟩, _⟩ := h
  exact (hf b o (by rw [e]; simp only [Fp.join]; rw [show g b = some o from hc]; rfl)).2

/-- A world that differs in one owned block alone. -/
theorem Sat.write (h : Sat w I (Blk b o :: L)) (hb : w'.heap[b]? = some o') (hr : ∀ k, k ≠ b → w'.heap[k]? = w.heap[k]?)
    (h1 : w'.os = w.os) (h2 : w'.tape = w.tape) (h3 : w'.output = w.output) : Sat w' I (Blk b o' :: L) := by
  have him := h.blk_imm
  obtain ⟨⟨f, ⟨g, m, dj, e, hc, hL⟩, hf⟩, hi, a, t, u⟩ := h
  have hgb : g b = some o := hc
  have hm : m b = none := by rcases dj b with x | x; (rw [hgb] at x; cases x); exact x
  refine ⟨⟨Fp.join (fun k => if k = b then some o' else none) m, ⟨_, m, ?_, rfl, ?_, hL⟩, ?_⟩, ?_, h1.trans a, h2.trans t, h3.trans u⟩
  · intro k; by_cases hk : k = b
    · subst hk; exact .inr hm
    · simp [hk]
  · simp [Blk]
  · intro k x hx
    by_cases hk : k = b
    · subst hk
      simp [Fp.join] at hx
      subst hx
      exact ⟨hb, him⟩
    · simp [Fp.join, hk] at hx
      have : f k = some x := by
        subst e
        rcases dj k with y | y
        · simp [Fp.join, y, hx]
        · rw [y] at hx; cases hx
      rw [hr k hk]
      exact hf k x this
  · intro k x hx
    have hk : k ≠ b := by rintro rfl; rw [him] at hx; cases hx
    rw [hr k hk]; exact hi k x hx

theorem Sat.upd (h : Sat w I L) (i : Nat) (hi : L[i]? = some (Blk b o)) (hb : w'.heap[b]? = some o') (hr : ∀ k, k ≠ b → w'.heap[k]? = w.heap[k]?)
    (h1 : w'.os = w.os) (h2 : w'.tape = w.tape) (h3 : w'.output = w.output) : Sat w' I (L.set i (Blk b o')) :=
  ((h.pull i hi).write hb hr h1 h2 h3).push i hi

/-- A new block. -/
theorem Sat.alloc (h : Sat w I L) (o : Obj) : Sat (w.alloc o) I (Blk w.heap.size o :: L) := by
  obtain ⟨⟨f, hL, hf⟩, hi, a, t, u⟩ := h
  have lt : ∀ {k : Nat} {x : Obj}, w.heap[k]? = some x → k < w.heap.size := fun hk => (Array.getElem?_eq_some_iff.1 hk).1
  have old : ∀ {k : Nat} {x : Obj}, w.heap[k]? = some x → (w.alloc o).heap[k]? = some x := fun hk => by
    rw [Below.heap_alloc w o _ (lt hk)]; exact hk
  have fn : f w.heap.size = none := by
    cases hx : f w.heap.size with
    | none => rfl
    | some x => have := lt (hf _ _ hx).1; omega
  have inn : I.imm w.heap.size = none := by
    cases hx : I.imm w.heap.size with
    | none => rfl
    | some x => have := lt (hi _ _ hx); omega
  refine ⟨⟨Fp.join (fun k => if k = w.heap.size then some o else none) f, ⟨_, f, ?_, rfl, ?_, hL⟩, ?_⟩, ?_, a, t, u⟩
  · intro k; by_cases hk : k = w.heap.size
    · subst hk; exact .inr fn
    · simp [hk]
  · simp [Blk]
  · intro k x hx
    by_cases hk : k = w.heap.size
    · subst hk
      simp [Fp.join] at hx
      subst hx
      exact ⟨heap_alloc_new w _, inn⟩
    · simp [Fp.join, hk] at hx
      exact ⟨old (hf k x hx).1, (hf k x hx).2⟩
  · exact fun k x hx => old (hi k x hx)

theorem Sat.same (h : Sat w I L) (hh : w'.heap = w.heap) (h1 : w'.os = w.os) (h2 : w'.tape = w.tape) (h3 : w'.output = w.output) : Sat w' I L :=
  ⟨let ⟨f, a, b⟩ := h.ex; ⟨f, a, fun k o e => by rw [hh]; exact b k o e⟩, fun k o e => by rw [hh]; exact h.imm k o e, h1.trans h.os, h2.trans h.tape, h3.trans h.output⟩
theorem Sat.drew (h : Sat w I L) : Sat w.drew I L := h.same rfl rfl rfl rfl

/-- What is owned by the first chunk is given up to the immutable blocks, for good. -/
theorem Sat.freeze (h : Sat w I (c :: L)) : ∃ J, I.le J ∧ Sat w J L ∧ ∃ f, c f ∧ ∀ b o, f b = some o → J.imm b = some o := by
  obtain ⟨⟨f, ⟨g, m, dj, e, hc, hL⟩, hf⟩, hi, a, t, u⟩ := h
  have gf : ∀ b o, g b = some o → f b = some o := fun b o hb => by subst e; simp [Fp.join, hb]
  have mf : ∀ b o, m b = some o → f b = some o := fun b o hb => by
    subst e; rcases dj b with y | y
    · simp [Fp.join, y, hb]
    · rw [y] at hb; cases hb
  refine ⟨⟨I.os, I.tape, I.output, Fp.join I.imm g⟩, ⟨rfl, rfl, rfl, fun b o hb => by simp [Fp.join, hb]⟩, ⟨⟨m, hL, ?_⟩, ?_, a, t, u⟩, g, hc, ?_⟩
  · intro b o hb
    refine ⟨(hf b o (mf b o hb)).1, ?_⟩
    have h1 := (hf b o (mf b o hb)).2
    have h2 : g b = none := by rcases dj b with y | y; exact y; (rw [y] at hb; cases hb)
    simp [Fp.join, h1, h2]
  · intro b o hb
    simp only [Fp.join] at hb
    cases hx : I.imm b with
    | some x => rw [hx] at hb; simp at hb; subst hb; exact hi b _ hx
    | none => rw [hx] at hb; simp at hb; exact (hf b o (gf b o hb)).1
  · intro b o hb
    have h1 := (hf b o (gf b o hb)).2
    simp [Fp.join, h1, hb]

def Gh.of (w : World) : Gh := ⟨w.os, w.tape, w.output, fun b => w.heap[b]?⟩
theorem Sat.init (w : World) : Sat w (Gh.of w) [] :=
  ⟨⟨Fp.emp, trivial, fun b o h => by cases h⟩, fun _ _ h => h, rfl, rfl, rfl⟩
theorem Sat.below (h : Sat w' J L) (hle : (Gh.of w).le J) : Below w.heap.size w w' := by
  have hb : ∀ k, k < w.heap.size → w'.heap[k]? = w.heap[k]? := fun k hk => by
    have : w.heap[k]? = some w.heap[k] := by simp [hk]
    rw [this]; exact h.imm _ _ (hle.imm _ _ this)
  refine ⟨h.os.trans hle.os, h.tape.trans hle.tape, h.output.trans hle.output, ?_, hb⟩
  rcases Nat.eq_zero_or_pos w.heap.size with e | e
  · omega
  · have h1 := hb (w.heap.size - 1) (by omega)
    have h2 : w.heap[w.heap.size - 1]? = some w.heap[w.heap.size - 1] := by simp
    rw [h2] at h1
    have := (Array.getElem?_eq_some_iff.1 h1).1
    omega
end
end Go.SL

/- Laws of single operations over 'Sat': what each operation of the walk does to the chunks. -/
namespace Go.SL
open Go.RowKit

def Rd (w : World) (p : Addr) (xs : List Value) : Prop := ∀ j u, xs[j]? = some u → w.cell? (p.add j) = some u
theorem Rd.drop {w : World} {p : Addr} {xs : List Value} (h : Rd w p xs) (k : Nat) : Rd w (p.add k) (xs.drop k) := by
  intro j u hu
  rw [Addr.add_add]
  exact h _ _ (by simpa [List.getElem?_drop] using hu)
theorem Rd.take {w : World} {p : Addr} {xs : List Value} (h : Rd w p xs) (n : Nat) : Rd w p (xs.take n) := by
  intro j u hu
  refine h _ _ ?_
  rw [List.getElem?_take] at hu
  split at hu
  · exact hu
  · cases hu
theorem Rd.left {w : World} {p : Addr} {xs ys : List Value} (h : Rd w p (xs ++ ys)) : Rd w p xs := by
  have := h.take xs.length
  simpa using this
theorem Rd.of_block {w : World} {b k : Nat} {cs : List Value} {E : TypeId} {fz : Nat × Nat} (h : w.heap[b]? = some (.cells cs.toArray E fz)) : Rd w ⟨b, k, none⟩ (cs.drop k) := by
  intro j u hu
  rw [Addr.add_lit, cell_of_row w b _ _ E fz h]
  simpa [List.getElem?_drop] using hu

/-! slices' values -/
structure IsSl (v : Value) (n : Nat) : Prop where
  ex : ∃ a cap, v = .slice a n cap ∧ n ≤ cap ∧ (a = none → n = 0)
def ea (v : Value) (k : Nat) : Addr := match v with | .slice (some p) _ _ => p.add k | _ => ⟨0, 0, none⟩
theorem IsSl.one {v : Value} {n : Nat} (h : IsSl v n) : v.oneCell' = true := by obtain ⟨_, _, rfl, _⟩ := h.ex; rfl
theorem IsSl.cells {v : Value} {n : Nat} (h : IsSl v n) : v.cells = #[v] := by obtain ⟨_, _, rfl, _⟩ := h.ex; rfl
theorem IsSl.nil : IsSl (.slice none 0 0) 0 := ⟨_, _, rfl, Nat.le_refl _, fun _ => rfl⟩

/-- The cells behind a slice, as they can be read in a world. -/
def RdS (w : World) (v : Value) (xs : List Value) : Prop := ∀ p n c, v = .slice (some p) n c → Rd w p xs

def Oc (xs : List Value) : Prop := ∀ u ∈ xs, u.oneCell' = true
def Row (v : Value) (E : TypeId) (sz n : Nat) (xs : List Value) : Ch := fun f =>
  (xs.length = n * sz ∧ Oc xs) ∧ ((v = .slice none 0 0 ∧ n = 0) ∨
    ∃ g cap rest, v = .slice (some ⟨g, 0, none⟩) n cap ∧ n ≤ cap ∧ cap ≤ maxLen ∧ rest.length = (cap - n) * sz ∧ f g = some (.cells (xs ++ rest).toArray E (0, 0)))

def immCell (I : Gh) (a : Addr) : Option Value :=
  match I.imm a.block with
  | some (.cells c _ _) => if a.spot.isSome then none else c[a.off]?
  | _ => none
def RdI (I : Gh) (p : Addr) (xs : List Value) : Prop := ∀ j u, xs[j]? = some u → immCell I (p.add j) = some u
theorem RdI.mono {I J : Gh} {p : Addr} {xs : List Value} (h : RdI I p xs) (hle : I.le J) : RdI J p xs := by
  intro j u hu
  have := h j u hu
  unfold immCell at this ⊢
  cases hb : I.imm (p.add j).block with
  | none => rw [hb] at this; cases this
  | some o => rw [hle.imm _ _ hb]; rw [hb] at this; exact this
/-- An immutable slice of n elements, all of whose cells are xs. -/
structure SlI (I : Gh) (v : Value) (n : Nat) (xs : List Value) : Prop where
  is : IsSl v n
  oc : Oc xs
  rd : ∀ p m c, v = .slice (some p) m c → RdI I p xs
theorem SlI.mono {I J : Gh} {v : Value} {n : Nat} {xs : List Value} (h : SlI I v n xs) (hle : I.le J) : SlI J v n xs := ⟨h.is, h.oc, fun p m c e => (h.rd p m c e).mono hle⟩
theorem SlI.nil (I : Gh) : SlI I (.slice none 0 0) 0 [] := ⟨IsSl.nil, (fun _ h => by cases h), fun p m c e => by cases e⟩

section
variable {P : Program} {w w' : World} {I J : Gh} {L M : List Ch} {c d : Ch} {b b' : Nat} {o o' : Obj} {E : TypeId} {cs xs ys news : List Value} {v u : Value} {n m k sz : Nat} {p : Addr}

theorem Sat.rdI (h : Sat w I L) (hr : RdI I p xs) : Rd w p xs := by
  intro j u hu
  have := hr j u hu
  unfold immCell at this
  cases hb : I.imm (p.add j).block with
  | none => rw [hb] at this; cases this
  | some o =>
    rw [hb] at this
    have hw := h.imm _ _ hb
    unfold World.cell?
    rw [hw]
    exact this
theorem Sat.rdSI (h : Sat w I L) (hr : SlI I v n xs) : RdS w v xs := fun p m c e => h.rdI (hr.rd p m c e)

theorem Sat.cells (h : Sat w I L) (i : Nat) (hi : L[i]? = some (Cells b E cs)) (k : Nat) : Rd w ⟨b, k, none⟩ (cs.drop k) := Rd.of_block (h.blk i hi)
theorem Sat.row0 (h : Sat w I (Row v E sz n xs :: L)) : IsSl v n ∧ xs.length = n * sz ∧ RdS w v xs ∧ n ≤ maxLen ∧ Oc xs := by
  obtain ⟨⟨f, ⟨g, m, dj, e, ⟨⟨hl, ho⟩, hc⟩, hL⟩, hf⟩, _⟩ := h
  rcases hc with ⟨rfl, rfl⟩ | ⟨q, cap, rest, rfl, hn, hm, hr, hq⟩
  · exact ⟨IsSl.nil, hl, (fun _ _ _ e => by cases e), Nat.zero_le _, ho⟩
  · refine ⟨⟨_, _, rfl, hn, fun e => by cases e⟩, hl, ?_, Nat.le_trans hn hm, ho⟩
    intro p n' c' e'
    injection e' with e1 _ _
    injection e1 with e1
    subst e1
    have hb := (hf q _ (by rw [e]; simp only [Fp.join]; rw [hq]; rfl)).1
    have := Rd.of_block (k := 0) hb
    simp only [List.drop_zero] at this
    exact this.left
theorem Sat.row (h : Sat w I L) (i : Nat) (hi : L[i]? = some (Row v E sz n xs)) : IsSl v n ∧ xs.length = n * sz ∧ RdS w v xs ∧ n ≤ maxLen ∧ Oc xs := (h.pull i hi).row0

theorem Sat.cons_emp (h : Sat w I L) (hc : c Fp.emp) : Sat w I (c :: L) := h.map fun f x => ⟨Fp.emp, f, Fp.emp_disj _, (Fp.emp_join f).symm, hc, x⟩
theorem Sat.rot3 {c1 c2 c3 : Ch} (h : Sat w I (c1 :: c2 :: c3 :: L)) : Sat w I (c2 :: c3 :: c1 :: L) := h.perm ((List.Perm.swap c2 c1 _).trans (List.Perm.cons c2 (List.Perm.swap c3 c1 _)))
theorem Sat.nilRow (h : Sat w I L) (E : TypeId) (sz : Nat) : Sat w I (Row (.slice none 0 0) E sz 0 [] :: L) :=
  h.cons_emp ⟨⟨by simp, fun _ h => by cases h⟩, .inl ⟨rfl, rfl⟩⟩
/-- An owned slice becomes immutable. -/
theorem Sat.freezeRow (h : Sat w I (Row v E sz n xs :: L)) : ∃ J, I.le J ∧ Sat w J L ∧ SlI J v n xs := by
  obtain ⟨hs, _, _, _, ho⟩ := h.row0
  obtain ⟨J, hle, hS, f, ⟨_, hc⟩, hf⟩ := h.freeze
  refine ⟨J, hle, hS, hs, ho, ?_⟩
  intro p m c e j u hu
  rcases hc with ⟨rfl, _⟩ | ⟨q, cap, rest, rfl, hn, hm, hr, hq⟩
  · cases e
  · injection e with e1 _ _
    injection e1 with e1
    subst e1
    have := hf _ _ hq
    simp only [immCell, Addr.add_lit, this]
    have hlt : j < xs.length := by
      rcases Nat.lt_or_ge j xs.length with h | h
      · exact h
      · rw [List.getElem?_eq_none h] at hu; cases hu
    simpa [List.getElem?_append_left hlt] using hu

def lset : List Value → Nat → Value → List Value
  | [], _, _ => []
  | _ :: l, 0, v => v :: l
  | x :: l, n + 1, v => x :: lset l n v
theorem lset_eq : ∀ (l : List Value) (n : Nat) (v : Value), l.set n v = lset l n v
  | [], _, _ => rfl
  | _ :: _, 0, _ => rfl
  | x :: l, n + 1, v => by simp [lset, lset_eq l n v]

/-- Finding a chunk in the list, by the way instances are found: 'rep': the list with another chunk in its place. -/
class HasCells (L : List Ch) (b : Nat) (E : outParam TypeId) (cs : outParam (List Value)) (rep : outParam (Ch → List Ch)) : Prop where
  has : ∃ i, L[i]? = some (Cells b E cs) ∧ ∀ c, rep c = L.set i c
instance HasCells.here {b : Nat} {E : TypeId} {cs : List Value} {L : List Ch} : HasCells (Cells b E cs :: L) b E cs (fun c => c :: L) := ⟨0, rfl, fun _ => rfl⟩
instance (priority := 500) HasCells.there {b : Nat} {E : TypeId} {cs : List Value} {L : List Ch} {x : Ch} {rep : Ch → List Ch} [h : HasCells L b E cs rep] : HasCells (x :: L) b E cs (fun c => x :: rep c) :=
  ⟨let ⟨i, a, e⟩ := h.has; ⟨i + 1, by simpa using a, fun c => by simp [e c]⟩⟩
instance HasCells.past {b : Nat} {E : TypeId} {cs : List Value} {X L : List Ch} {rep : Ch → List Ch} [h : HasCells L b E cs rep] : HasCells (X ++ L) b E cs (fun c => X ++ rep c) :=
  ⟨let ⟨i, a, e⟩ := h.has; ⟨X.length + i, by rw [List.getElem?_append_right (Nat.le_add_right _ _), Nat.add_sub_cancel_left]; exact a,
    fun c => by rw [e c, List.set_append_right _ _ (Nat.le_add_right _ _), Nat.add_sub_cancel_left]⟩⟩
class HasRow (L : List Ch) (v : Value) (E : outParam TypeId) (sz n : outParam Nat) (xs : outParam (List Value)) (rep : outParam (Ch → List Ch)) : Prop where
  has : ∃ i, L[i]? = some (Row v E sz n xs) ∧ ∀ c, rep c = L.set i c
instance HasRow.here {v : Value} {E : TypeId} {sz n : Nat} {xs : List Value} {L : List Ch} : HasRow (Row v E sz n xs :: L) v E sz n xs (fun c => c :: L) := ⟨0, rfl, fun _ => rfl⟩
instance (priority := 500) HasRow.there {v : Value} {E : TypeId} {sz n : Nat} {xs : List Value} {L : List Ch} {x : Ch} {rep : Ch → List Ch} [h : HasRow L v E sz n xs rep] : HasRow (x :: L) v E sz n xs (fun c => x :: rep c) :=
  ⟨let ⟨i, a, e⟩ := h.has; ⟨i + 1, by simpa using a, fun c => by simp [e c]⟩⟩
instance HasRow.past {v : Value} {E : TypeId} {sz n : Nat} {xs : List Value} {X L : List Ch} {rep : Ch → List Ch} [h : HasRow L v E sz n xs rep] : HasRow (X ++ L) v E sz n xs (fun c => X ++ rep c) :=
  ⟨let ⟨i, a, e⟩ := h.has; ⟨X.length + i, by rw [List.getElem?_append_right (Nat.le_add_right _ _), Nat.add_sub_cancel_left]; exact a,
    fun c => by rw [e c, List.set_append_right _ _ (Nat.le_add_right _ _), Nat.add_sub_cancel_left]⟩⟩
/-- What was there when a region began is still there. -/
class HasTail (M L : List Ch) : Prop where
  has : ∃ X, M = X ++ L
instance HasTail.refl {L : List Ch} : HasTail L L := ⟨[], rfl⟩
instance (priority := 500) HasTail.cons {M L : List Ch} {c : Ch} [h : HasTail M L] : HasTail (c :: M) L := ⟨let ⟨X, e⟩ := h.has; ⟨c :: X, by rw [e]; rfl⟩⟩

/-! closed facts on types -/
def kindB (P : Program) (t : TypeId) : Option Bool := (P.underlying t).map fun | .struct _ | .array _ _ => true | _ => false
def sizeB (P : Program) (t : TypeId) : Option Nat := (P.info? t).map (·.size)
def zeroB (P : Program) (t : TypeId) : Option (List Value) := ((P.info? t).bind (·.zero)).map (·.cells.toList)
def bytesB (P : Program) (t : TypeId) : Option Nat := (P.info? t).map (·.bytes)
def sliceB (P : Program) (t : TypeId) : Option TypeId := match P.underlying t with | some (.slice e) => some e | _ => none

theorem tab_get {α : Type} {f : Nat → α} {N : Nat} {l : List α} (h : (List.range N).map f = l) {t : Nat} {x : α} (hx : l[t]? = some x) : f t = x := by
  subst h
  simp only [List.getElem?_map, Option.map_eq_some_iff] at hx
  obtain ⟨k, hk, rfl⟩ := hx
  rw [List.getElem?_range (by rcases Nat.lt_or_ge t N with h | h; exact h; simp [List.getElem?_eq_none (l := List.range N) (by simpa using h)] at hk)] at hk
  injection hk with hk
  rw [hk]
theorem run_isAgg {t : TypeId} {x : Bool} (h : kindB P t = some x) (w : World) : (isAgg t).run P w = .ok x w := by
  unfold kindB at h
  cases hu : P.underlying t with
  | none => rw [hu] at h; cases h
  | some d =>
    rw [hu] at h
    unfold isAgg
    rw [Sem.run_bind, run_underlying hu w]
    cases d <;> simp_all
theorem run_sizeOf {t : TypeId} (h : sizeB P t = some n) (w : World) : (sizeOf t).run P w = .ok n w := by
  unfold sizeB at h
  cases hq : P.info? t with
  | none => rw [hq] at h; cases h
  | some i => rw [hq] at h; simp at h; simp [sizeOf, typeInfo, hq, h]
theorem run_load1 {t : TypeId} (hk : kindB P t = some false) (h : w.cell? p = some v) : (loadVar t p).run P w = .ok v w := by
  simp [loadVar, run_isAgg hk, h]
theorem run_loadN {t : TypeId} (hk : kindB P t = some true) (hs : sizeB P t = some xs.length) (h : Rd w p xs) : (loadVar t p).run P w = .ok (.agg xs.toArray) w := by
  simp [loadVar, run_isAgg hk, run_sizeOf hs, run_loadCells_list (P := P) w p xs h]

def nth : List Value → Nat → Value
  | [], _ => undef
  | x :: _, 0 => x
  | _ :: l, n + 1 => nth l n
theorem nth_eq : ∀ (l : List Value) (n : Nat), l.toArray.getD n undef = nth l n
  | [], n => by simp [nth]
  | x :: l, 0 => by simp [nth]
  | x :: l, n + 1 => by
    have := nth_eq l n
    simpa [nth] using this
theorem ev_tmp (l : List Value) (d : List Deferred) (t : Tmp) : Act.eval ⟨l.toArray, d⟩ (.tmp t) = nth l t := nth_eq l t
theorem ev_const (a : Act) (v : Value) : a.eval (.const v) = v := rfl

variable {a : Act} {K : Act → World → Prop} {Q : Exit → Act → World → Prop} {dst : Option Tmp} {x y z : Operand} {t ty : TypeId} {pos : String} {af : Array Edge} {gd : Option (Nat × Bool)}

/-- 'wpList' behind a lid: no reckoning of a goal's type looks through it. -/
structure WL (P : Program) (ops : Array Oper) (Q : Exit → Act → World → Prop) (ol : List Oper) (a : Act) (w : World) : Prop where
  ok : wpList P ops Q ol a w
theorem WL.eq {ops : Array Oper} {ol : List Oper} : WL P ops Q ol = wpList P ops Q ol := funext fun a => funext fun w => propext ⟨fun h => h.ok, fun h => ⟨h⟩⟩
theorem wl_of {ops : Array Oper} {rest : List Oper} {q : Oper} (hg : Region.wanted q (yielded ops a.tmps) = true) (h : q.wp P a w (WL P ops Q rest) Q) : WL P ops Q (q :: rest) a w := by
  rw [WL.eq] at h ⊢
  unfold wpList
  rw [if_pos hg]
  exact .inl h

/-- A load out of a block that is owned and written out: one cell; an aggregate. -/
theorem ld1 {rep : Ch → List Ch} (hS : Sat w I L) [hi : HasCells L b E cs rep] (hk : kindB P t = some false) (hc : cs[k]? = some v) : (loadVar t ⟨b, k, none⟩).run P w = .ok v w := by
  obtain ⟨i, hi, _⟩ := hi.has
  refine run_load1 hk ?_
  have := hS.cells i hi k 0 v (by simpa [List.getElem?_drop] using hc)
  rwa [Addr.add_zero'] at this
def sub (cs : List Value) (k n : Nat) : List Value := (cs.drop k).take n
theorem ldN {rep : Ch → List Ch} (hS : Sat w I L) [hi : HasCells L b E cs rep] (hk : kindB P t = some true) (hs : sizeB P t = some n) (hn : Nat.ble (k + n) cs.length = true) : (loadVar t ⟨b, k, none⟩).run P w = .ok (.agg (sub cs k n).toArray) w := by
  obtain ⟨i, hi, _⟩ := hi.has
  refine run_loadN hk ?_ ((hS.cells i hi k).take n)
  have := Nat.le_of_ble_eq_true hn
  rw [hs]; simp [sub]; omega

def splice (cs : List Value) (k : Nat) (vs : List Value) : List Value := cs.take k ++ vs ++ cs.drop (k + vs.length)
theorem run_storeVar_cells (hb : w.heap[b]? = some (.cells cs.toArray E (0, 0))) (hs : sizeB P t = some v.cells.toList.length) (hk : k + v.cells.toList.length ≤ cs.length) (h1 : ∀ u ∈ v.cells.toList, u.oneCell' = true) :
    (storeVar t ⟨b, k, none⟩ v).run P w = .ok () (w.setRow b (splice cs k v.cells.toList).toArray) := by
  have := run_storeCells_at P b k E v.cells.toList 0 cs.toArray w hb (by simpa using hk) h1
  simp only [Nat.add_zero] at this
  simp [storeVar, run_sizeOf hs]
  simpa [splice] using this
theorem Sat.setRow {rep : Ch → List Ch} (hS : Sat w I L) [hi : HasCells L b E cs rep] (ds : List Value) : Sat (w.setRow b ds.toArray) I (rep (Cells b E ds)) := by
  obtain ⟨i, hi, e⟩ := hi.has
  rw [e]
  exact hS.upd i hi (setRow_heap w b _ _ _ _ (hS.blk i hi)) (fun k hk => setRow_other w b k _ hk) rfl rfl rfl
theorem Sat.blkH {rep : Ch → List Ch} (hS : Sat w I L) [hi : HasCells L b E cs rep] : w.heap[b]? = some (.cells cs.toArray E (0, 0)) := by
  obtain ⟨i, hi, _⟩ := hi.has
  exact hS.blk i hi

theorem one_cells {u : Value} (h : u.oneCell' = true) : u.cells = #[u] := by cases u <;> first | rfl | cases h
theorem splice_one {cs : List Value} {k : Nat} {u : Value} (hk : k < cs.length) : splice cs k [u] = cs.set k u := by
  rw [List.set_eq_take_append_cons_drop, if_pos hk]
  simp [splice]
/-- A store into a block that is owned and written out: one cell; an aggregate. -/
theorem wp_store1 {u : Value} {rep : Ch → List Ch} (hp : a.eval x = .pointer (some ⟨b, k, none⟩)) (hy : a.eval y = u) (hS : Sat w I L) [hi : HasCells L b E cs rep] (hs : sizeB P t = some 1)
    (hk : Nat.blt k cs.length = true) (h1 : u.oneCell' = true) (h : ∀ w', Sat w' I (rep (Cells b E (lset cs k u))) → K (a.put dst undef) w') :
    Oper.wp P ⟨dst, .store t x y, ty, pos, af, gd⟩ a w K Q := by
  unfold Oper.wp execOp
  have hc : u.cells.toList = [u] := by rw [one_cells h1]
  have hk := Nat.lt_of_lt_of_le (Nat.lt_succ_self k) (Nat.le_of_ble_eq_true hk)
  have := run_storeVar_cells (P := P) (t := t) (v := u) (hS.blkH (hi := hi)) (k := k) (by rw [hc]; exact hs) (by rw [hc]; exact hk) (by rw [hc]; simpa using h1)
  rw [hc, splice_one hk, lset_eq] at this
  simp only [hp, hy, Instr.storeAt, Instr.sureAddr, Sem.run_bind, Sem.run_pure, Result.andThen_ok, this]
  exact h _ (hS.setRow _)
theorem wp_storeN {vs : List Value} {rep : Ch → List Ch} (hp : a.eval x = .pointer (some ⟨b, k, none⟩)) (hy : a.eval y = .agg vs.toArray) (hS : Sat w I L) [hi : HasCells L b E cs rep] (hs : sizeB P t = some vs.length)
    (hk : Nat.ble (k + vs.length) cs.length = true) (h1 : vs.all Value.oneCell' = true) (h : ∀ w', Sat w' I (rep (Cells b E (splice cs k vs))) → K (a.put dst undef) w') :
    Oper.wp P ⟨dst, .store t x y, ty, pos, af, gd⟩ a w K Q := by
  unfold Oper.wp execOp
  have := run_storeVar_cells (P := P) (t := t) (v := .agg vs.toArray) (hS.blkH (hi := hi)) (k := k) (by simpa [Value.cells] using hs) (by simpa [Value.cells] using Nat.le_of_ble_eq_true hk) (by simpa [Value.cells] using h1)
  simp only [Value.cells] at this
  simp only [hp, hy, Instr.storeAt, Instr.sureAddr, Sem.run_bind, Sem.run_pure, Result.andThen_ok, this]
  exact h _ (hS.setRow _)

theorem wp_box1 {u : Value} (hy : a.eval y = u) (hS : Sat w I L) (h1 : u.oneCell' = true) (h : ∀ b w', Sat w' I (Cells b t [u] :: L) → K (a.put dst (.pointer (some ⟨b, 0, none⟩))) w') :
    Oper.wp P ⟨dst, .box t y, ty, pos, af, gd⟩ a w K Q := by
  unfold Oper.wp execOp
  simp only [Instr.box, newVar, newRow, Sem.run_bind, Sem.run_pure, Result.andThen_ok, run_newObj, hy, one_cells h1]
  exact h _ _ (hS.alloc (.cells #[u] t))
theorem wp_boxN {vs : List Value} (hy : a.eval y = .agg vs.toArray) (hS : Sat w I L) (h : ∀ b w', Sat w' I (Cells b t vs :: L) → K (a.put dst (.pointer (some ⟨b, 0, none⟩))) w') :
    Oper.wp P ⟨dst, .box t y, ty, pos, af, gd⟩ a w K Q := by
  unfold Oper.wp execOp
  simp only [Instr.box, newVar, newRow, Sem.run_bind, Sem.run_pure, Result.andThen_ok, run_newObj, hy, Value.cells]
  exact h _ _ (hS.alloc (.cells vs.toArray t))
theorem run_zeroValue (hz : zeroB P t = some cs) : ∃ z : Value, z.cells.toList = cs ∧ ∀ w : World, (zeroValue t).run P w = .ok z w := by
  unfold zeroB at hz
  cases hq : P.info? t with
  | none => rw [hq] at hz; cases hz
  | some i =>
    rw [hq] at hz
    cases hzz : i.zero with
    | none => simp [hzz] at hz
    | some z => simp [hzz] at hz; exact ⟨z, hz, fun w => by simp [zeroValue, typeInfo, hq, hzz]⟩
theorem wp_alloc (hS : Sat w I L) (hz : zeroB P t = some cs) (h : ∀ b w', Sat w' I (Cells b t cs :: L) → K (a.put dst (.pointer (some ⟨b, 0, none⟩))) w') :
    Oper.wp P ⟨dst, .alloc t, ty, pos, af, gd⟩ a w K Q := by
  obtain ⟨z, hz1, hz2⟩ := run_zeroValue hz
  unfold Oper.wp execOp
  simp only [Instr.alloc, newVar, newRow, Sem.run_bind, Sem.run_pure, Result.andThen_ok, run_newObj, hz2]
  refine h _ _ ?_
  have := hS.alloc (.cells z.cells t)
  subst hz1
  simpa [Cells] using this

theorem Sat.rdEl (hr : RdS w v xs) (hv : IsSl v n) (hn : m < n) : Rd w (ea v k) (xs.drop k) := by
  obtain ⟨q, cap, e, _, hq⟩ := hv.ex
  have hne : q ≠ none := fun e => by have := hq e; omega
  obtain ⟨pp, rfl⟩ := Option.ne_none_iff_exists'.1 hne
  subst e
  exact (hr _ _ _ rfl).drop k
end
end Go.SL

/- A region that draws its order: operations that only read what the other operations leave alone may be taken first. -/
namespace Go.SL
open Go.RowKit
section
variable {P : Program} {ops : Array Oper} {Q : Exit → Act → World → Prop} {G : World → Prop} {A : Nat → Bool}

def wpG (P : Program) (ops : Array Oper) (Q : Exit → Act → World → Prop) (A : Nat → Bool) (G : World → Prop) : Nat → Array Bool → Act → World → Prop
  | 0, listed, a, w => Region.ready .any ops listed = [] ∧ Q .normal a w
  | fuel + 1, listed, a, w => (Region.ready .any ops listed = [] → Q .normal a w) ∧
    ∀ i ∈ Region.ready .any ops listed, wpOp P ops Q i (fun a' w' => (A i = true → G w → G w') ∧ wpG P ops Q A G fuel (listed.setIfInBounds i true) a' w') a w

theorem wpG_any : ∀ (fuel : Nat) (listed : Array Bool) (a : Act) (w : World), wpG P ops Q A G fuel listed a w → wpAny P .any ops Q fuel listed a w
  | 0, _, _, _, h => h
  | fuel + 1, _, _, _, h => ⟨h.1, fun i hi => wpOp_mono (fun a' w' k => wpG_any fuel _ a' w' k.2) (h.2 i hi)⟩

theorem wp_region_G {id : Nat} {a : Act} {w : World} (A : Nat → Bool) (G : World → Prop) (hm : P.follows .mixedOrders = true)
    (h : wpG P ops Q A G ops.size (Array.replicate ops.size false) a w.drew) : (Code.region id ops true).wp P Q a w :=
  wp_region_any hm (wpG_any _ _ _ _ h)

def YieldsG (P : Program) (ops : Array Oper) (G : World → Prop) (o : Oper) (v : Value) (a : Act) : Prop :=
  (Region.wanted o (yielded ops a.tmps) = true ∧ ∀ w, G w → (execOp a.eval o).run P w = .ok (.value v) w) ∨
  (Region.wanted o (yielded ops a.tmps) = false ∧ v = undef)
theorem YieldsG.wpOp {i : Nat} {o : Oper} {v : Value} {a : Act} (hi : ops[i]? = some o) (hy : YieldsG P ops G o v a)
    {K : Act → World → Prop} {w : World} (hw : G w) (h : K (a.put o.dst v) w) : wpOp P ops Q i K a w := by
  unfold Go.wpOp
  simp only [hi]
  rcases hy with ⟨hq, hv⟩ | ⟨hq, rfl⟩
  · simp only [hq, if_true, Oper.wp, hv w hw, Oper.upon]; exact .inl h
  · simp only [hq, Bool.false_eq_true, if_false]; exact h
theorem YieldsG.of_same {o : Oper} {v : Value} {a a' : Act} (hy : YieldsG P ops G o v a) (he : execOp a'.eval o = execOp a.eval o)
    (hw : Region.wanted o (yielded ops a'.tmps) = Region.wanted o (yielded ops a.tmps)) : YieldsG P ops G o v a' := by
  unfold YieldsG at *
  rw [he, hw]
  exact hy

theorem wpOp_putG {j : Nat} {oi oj : Oper} {v : Value} (hj : ops[j]? = some oj) (hap : oi.apart ops oj = true)
    (hsi : ∀ cs b, oi.op ≠ .select cs b) (hsj : ∀ cs b, oj.op ≠ .select cs b)
    (hQ : ∀ c a w, Q (.panic c) (a.put oi.dst v) w → Q (.panic c) a w) {K : Act → World → Prop} {a : Act} {w : World}
    (hy : YieldsG P ops G oi v a) (h : wpOp P ops Q j K (a.put oi.dst v) w) :
    wpOp P ops Q j (fun a' w' => YieldsG P ops G oi v a' ∧ K (a'.put oi.dst v) w') a w := by
  obtain ⟨h1, h2, h3⟩ := Oper.apart_spec hap
  have keep : ∀ (a : Act), YieldsG P ops G oi v a → ∀ u, YieldsG P ops G oi v (a.put oj.dst u) := fun a hy u =>
    hy.of_same (execOp_put oi hsi a oj.dst u h3) (wanted_put oi a oj.dst u h3)
  have keepD : ∀ d, YieldsG P ops G oi v { a with defers := d :: a.defers } := fun d => hy.of_same rfl rfl
  unfold wpOp at h ⊢
  simp only [hj] at h ⊢
  rw [wanted_put oj a oi.dst v h1] at h
  by_cases hw : Region.wanted oj (yielded ops a.tmps) = true
  · rw [if_pos hw] at h ⊢
    rcases h with h | ⟨hasks, hlets⟩
    · refine .inl ?_
      unfold Oper.wp at h ⊢
      rw [execOp_put oj hsj a oi.dst v h1] at h
      generalize (execOp a.eval oj).run P w = r at h ⊢
      cases r with
      | ok n w' =>
        cases n with
        | value u => exact ⟨keep a hy u, by rw [← Act.put_comm a v u h2]; exact h⟩
        | skip => exact ⟨keep a hy _, by rw [← Act.put_comm a v undef h2]; exact h⟩
        | defer d => exact ⟨keep _ (keepD d) _, by rw [← Act.put_comm _ v undef h2, ← Act.put_defers]; exact h⟩
        | enter f args =>
          exact Calls.mono h fun e w'' he => by
            cases e with
            | returned u => exact ⟨keep a hy u, by rw [← Act.put_comm a v u h2]; exact he⟩
            | panicked c => exact hQ _ _ _ he
            | outgrown => exact he
        | row row args => exact Rows.mono h fun u w'' he => ⟨keep a hy u, by rw [← Act.put_comm a v u h2]; exact he⟩
        | _ => exact h.elim
      | halt x w' =>
        cases x with
        | panic u => exact hQ _ _ _ h
        | _ => exact h.elim
    · exact .inr ⟨by unfold Oper.asks at hasks ⊢; rw [execOp_put oj hsj a oi.dst v h1] at hasks; exact hasks, hlets⟩
  · rw [if_neg hw] at h ⊢
    exact ⟨keep a hy _, by rw [← Act.put_comm a v undef h2]; exact h⟩

/-- What may come up ahead of operation i: S; it leaves i's slots alone, and (where i reads, B = false) keeps G. -/
def Ahead (A : Nat → Bool) (S : Nat → Bool) (B : Bool) (ops : Array Oper) (listed : Array Bool) (i : Nat) (oi : Oper) : Prop :=
  ∀ j oj, ops[j]? = some oj → j ≠ i → listed.getD j true = false → (∀ e ∈ oj.after, Region.binds .any e = true → listed.getD e.on false = true ∨ S e.on = true) →
    S j = true ∧ oi.apart ops oj = true ∧ (B = true ∨ A j = true)
theorem Ahead.step {S : Nat → Bool} {B : Bool} {listed : Array Bool} {i j : Nat} {oi : Oper} (h : Ahead A S B ops listed i oi) (hj : S j = true) :
    Ahead A S B ops (listed.setIfInBounds j true) i oi := by
  intro k ok hk hki hun hdep
  have hun' : listed.getD k true = false := by
    by_cases hjk : j = k
    · subst hjk
      have hlt : j < listed.size := by
        rcases Nat.lt_or_ge j listed.size with h' | h'
        · exact h'
        · simp [Array.getElem?_eq_none (xs := listed.setIfInBounds j true) (i := j) (by simpa using h')] at hun
      simp [hlt] at hun
    · rw [getD_set_ne true hjk] at hun; exact hun
  refine h k ok hk hki hun' fun e he hb => ?_
  rcases hdep e he hb with h1 | h1
  · by_cases hje : j = e.on
    · exact .inr (hje ▸ hj)
    · rw [getD_set_ne false hje] at h1; exact .inl h1
  · exact .inr h1
theorem wpG_first {i : Nat} {oi : Oper} {v : Value} {S : Nat → Bool} {B : Bool} (hi : ops[i]? = some oi) (hsel : ∀ (j : Nat) (o : Oper) cs b, ops[j]? = some o → o.op ≠ .select cs b)
    (hQ : ∀ c a w, Q (.panic c) (a.put oi.dst v) w → Q (.panic c) a w) :
    ∀ (fuel : Nat) (listed : Array Bool) (a : Act) (w : World), Ahead A S B ops listed i oi →
      i ∈ Region.ready .any ops listed → (B = true ∨ G w) → YieldsG P ops (fun w => B = true ∨ G w) oi v a →
      wpG P ops Q A G fuel (listed.setIfInBounds i true) (a.put oi.dst v) w → wpG P ops Q A G (fuel + 1) listed a w := by
  intro fuel
  induction fuel with
  | zero =>
    intro listed a w _ hr hG hy H
    refine ⟨fun h => (by rw [h] at hr; cases hr), fun j hj => ?_⟩
    by_cases hji : j = i
    · subst hji; exact hy.wpOp hi hG ⟨fun _ h => h, H⟩
    · have := ready_mono hj hji
      rw [H.1] at this
      cases this
  | succ fuel ih =>
    intro listed a w hfree hr hG hy H
    refine ⟨fun h => (by rw [h] at hr; cases hr), fun j hj => ?_⟩
    by_cases hji : j = i
    · subst hji; exact hy.wpOp hi hG ⟨fun _ h => h, H⟩
    · have h1 := H.2 j (ready_mono hj hji)
      obtain ⟨hjun, oj, hoj, hall⟩ := mem_ready.1 hj
      obtain ⟨hSj, hap, hA⟩ := hfree j oj hoj hji hjun (fun e he hb => .inl (hall e he hb))
      have h2 := wpOp_putG hoj hap (fun cs b => hsel i oi cs b hi) (fun cs b => hsel j oj cs b hoj) hQ hy h1
      refine wpOp_mono (fun a' w' h3 => ⟨h3.2.1, ih (listed.setIfInBounds j true) a' w' (hfree.step hSj) (ready_mono hr (Ne.symm hji)) ?_ h3.1 ?_⟩) h2
      · rcases hA with hB | hA
        · exact .inl hB
        · exact hG.imp id (h3.2.1 hA)
      · rw [Array.setIfInBounds_comm _ _ hji]
        exact h3.2.2

/-- What may come up ahead of i, reckoned: an operation waits for earlier ones alone. -/
def aheadOf (ops : Array Oper) (listed : Array Bool) (i : Nat) : Array Bool :=
  (List.range ops.size).foldl (fun s j => s.push (j != i && match ops[j]? with
    | some o => o.after.all fun e => !Region.binds .any e || listed.getD e.on false || s.getD e.on false
    | none => false)) #[]
def freeG (A : Nat → Bool) (S : Nat → Bool) (B : Bool) (ops : Array Oper) (listed : Array Bool) (i : Nat) : Bool :=
  (Region.ready .any ops listed).contains i && Region.noSelect ops &&
  match ops[i]? with
  | none => false
  | some oi => (List.range ops.size).all fun j => j == i || listed.getD j true || match ops[j]? with
      | some oj => oj.after.any (fun e => Region.binds .any e && !listed.getD e.on false && !S e.on) || (S j && oi.apart ops oj && (B || A j))
      | none => true
theorem wpG_take {i : Nat} {oi : Oper} {v : Value} {fuel : Nat} {listed : Array Bool} {a : Act} {w : World} (S : Nat → Bool) (B : Bool)
    (hf : freeG A S B ops listed i = true) (hi : ops[i]? = some oi)
    (hQ : ∀ c a w, Q (.panic c) (a.put oi.dst v) w → Q (.panic c) a w) (hG : B = true ∨ G w) (hy : YieldsG P ops (fun w => B = true ∨ G w) oi v a)
    (h : wpG P ops Q A G fuel (listed.setIfInBounds i true) (a.put oi.dst v) w) : wpG P ops Q A G (fuel + 1) listed a w := by
  unfold freeG at hf
  simp only [Bool.and_eq_true, hi] at hf
  obtain ⟨⟨hr, hs⟩, hall⟩ := hf
  refine wpG_first (S := S) hi (Region.noSelect_spec hs) hQ fuel listed a w ?_ (by simpa using hr) hG hy h
  intro j oj hj hne hun hdep
  simp only [List.all_eq_true, List.mem_range] at hall
  have h1 := hall j (Array.getElem?_eq_some_iff.1 hj).1
  simp only [hj, Bool.or_eq_true, beq_iff_eq, hne, false_or, hun, Bool.false_eq_true, Bool.and_eq_true] at h1
  rcases h1 with h1 | h1
  · exfalso
    obtain ⟨e, he, hb⟩ := Array.any_eq_true'.1 h1
    simp only [Bool.and_eq_true, Bool.not_eq_true'] at hb
    rcases hdep e he hb.1.1 with h | h
    · rw [h] at hb; cases hb.1.2
    · rw [h] at hb; cases hb.2
  · exact ⟨h1.1.1, h1.1.2, h1.2⟩
theorem wpG_ready {rs : List Nat} {fuel : Nat} {listed : Array Bool} {a : Act} {w : World} (hr : Region.ready .any ops listed = rs) (hne : rs ≠ [])
    (h : ∀ i ∈ rs, wpOp P ops Q i (fun a' w' => (A i = true → G w → G w') ∧ wpG P ops Q A G fuel (listed.setIfInBounds i true) a' w') a w) : wpG P ops Q A G (fuel + 1) listed a w :=
  ⟨fun h0 => absurd (hr ▸ h0) hne, hr ▸ h⟩
/-- One operation alone may come up. -/
theorem wpG_one {i : Nat} {o : Oper} {fuel : Nat} {listed : Array Bool} {a : Act} {w : World} (hr : Region.ready .any ops listed = [i]) (ho : ops[i]? = some o)
    (hw : Region.wanted o (yielded ops a.tmps) = true)
    (h : o.wp P a w (fun a' w' => (A i = true → G w → G w') ∧ wpG P ops Q A G fuel (listed.setIfInBounds i true) a' w') Q) : wpG P ops Q A G (fuel + 1) listed a w :=
  wpG_ready hr (by simp) fun j hj => by
    simp only [List.mem_singleton] at hj
    subst hj
    unfold wpOp
    rw [ho]
    show if _ then _ else _
    rw [if_pos hw]
    exact .inl h
theorem wpG_done {listed : Array Bool} {a : Act} {w : World} (hr : Region.ready .any ops listed = []) (h : Q .normal a w) :
    ∀ fuel, wpG P ops Q A G fuel listed a w
  | 0 => ⟨hr, h⟩
  | _ + 1 => ⟨fun _ => h, by rw [hr]; simp⟩
end
end Go.SL

/- What single operations yield that leave the world alone. -/
namespace Go.SL
open Go.RowKit

def Ex (P : Program) (a : Act) (o : Oper) (w : World) (v : Value) : Prop := (execOp a.eval o).run P w = .ok (.value v) w

theorem put_lit (l : List Value) (ds : List Deferred) (d : Nat) (v : Value) : Act.put ⟨l.toArray, ds⟩ (some d) v = ⟨(lset l d v).toArray, ds⟩ := by
  simp [Act.put, lset_eq]
theorem ev_at {l : List Value} {ds : List Deferred} {t : Nat} {v : Value} (h : l[t]? = some v) : Act.eval ⟨l.toArray, ds⟩ (.tmp t) = v := by
  simp [Act.eval, h]

section
variable {P : Program} {w w' : World} {I J : Gh} {L M : List Ch} {c d : Ch} {b b' : Nat} {o o' : Obj} {E : TypeId} {cs xs ys news : List Value} {v u : Value} {n m k sz : Nat} {p : Addr}
variable {a : Act} {K : Act → World → Prop} {Q : Exit → Act → World → Prop} {dst : Option Tmp} {x y z : Operand} {t ty : TypeId} {pos : String} {af : Array Edge} {gd : Option (Nat × Bool)}
variable {A : Nat → Bool} {G : World → Prop} {ops : Array Oper} {rest : List Oper} {l l' : List Value} {ds : List Deferred} {listed : Array Bool} {fuel i j : Nat} {q : Oper} {e : Nat}

/-! how a yielded value goes into the walk -/
theorem wl_val (hw : Region.wanted q (yielded ops l.toArray) = true) (hd : q.dst = some e) (hx : Ex P ⟨l.toArray, ds⟩ q w v) (hl : lset l e v = l')
    (h : WL P ops Q rest ⟨l'.toArray, ds⟩ w) : WL P ops Q (q :: rest) ⟨l.toArray, ds⟩ w := by
  refine wl_of hw ?_
  unfold Oper.wp
  rw [show (execOp (Act.eval ⟨l.toArray, ds⟩) q).run P w = .ok (.value v) w from hx]
  show WL P ops Q rest (Act.put _ q.dst v) w
  rw [hd, put_lit, hl]
  exact h
theorem wl_skip (hw : Region.wanted q (yielded ops l.toArray) = false) (hd : q.dst = some e) (hl : lset l e undef = l')
    (h : WL P ops Q rest ⟨l'.toArray, ds⟩ w) : WL P ops Q (q :: rest) ⟨l.toArray, ds⟩ w := by
  refine ⟨?_⟩
  unfold wpList
  rw [if_neg (by rw [hw]; simp), hd, put_lit, hl]
  exact h.ok
theorem wl_nil (h : Q .normal a w) : WL P ops Q [] a w := ⟨h⟩
theorem wg_pure (i : Nat) (hf : freeG A (fun j => (aheadOf ops listed i).getD j false) true ops listed i = true) (hi : ops[i]? = some q) (hd : q.dst = some e)
    (hQ : ∀ c a w, Q (.panic c) (a.put (some e) v) w → Q (.panic c) a w) (hw : Region.wanted q (yielded ops l.toArray) = true)
    (hx : ∀ w, Ex P ⟨l.toArray, ds⟩ q w v) (hl : lset l e v = l')
    (h : wpG P ops Q A G fuel (listed.setIfInBounds i true) ⟨l'.toArray, ds⟩ w) : wpG P ops Q A G (fuel + 1) listed ⟨l.toArray, ds⟩ w := by
  refine wpG_take (v := v) _ true hf hi (by rw [hd]; exact hQ) (.inl rfl) (.inl ⟨hw, fun w _ => hx w⟩) ?_
  rw [hd, put_lit, hl]
  exact h
theorem wg_read (i : Nat) {L : List Ch} {M : List Ch} [ht : HasTail M L] (hS : Sat w I M) (hf : freeG A (fun j => (aheadOf ops listed i).getD j false) false ops listed i = true) (hi : ops[i]? = some q) (hd : q.dst = some e)
    (hQ : ∀ c a w, Q (.panic c) (a.put (some e) v) w → Q (.panic c) a w) (hw : Region.wanted q (yielded ops l.toArray) = true)
    (hx : ∀ w X, Sat w I (X ++ L) → Ex P ⟨l.toArray, ds⟩ q w v) (hl : lset l e v = l')
    (h : wpG P ops Q A (fun w => ∃ X, Sat w I (X ++ L)) fuel (listed.setIfInBounds i true) ⟨l'.toArray, ds⟩ w) : wpG P ops Q A (fun w => ∃ X, Sat w I (X ++ L)) (fuel + 1) listed ⟨l.toArray, ds⟩ w := by
  obtain ⟨X, e1⟩ := ht.has
  refine wpG_take (v := v) _ false hf hi (by rw [hd]; exact hQ) (.inr ⟨X, e1 ▸ hS⟩) (.inl ⟨hw, fun w hg => ?_⟩) ?_
  · obtain ⟨X, hX⟩ := hg.resolve_left (by simp)
    exact hx w X hX
  rw [hd, put_lit, hl]
  exact h
theorem wg_skip (i : Nat) (hf : freeG A (fun j => (aheadOf ops listed i).getD j false) true ops listed i = true) (hi : ops[i]? = some q) (hd : q.dst = some e)
    (hQ : ∀ c a w, Q (.panic c) (a.put (some e) undef) w → Q (.panic c) a w) (hw : Region.wanted q (yielded ops l.toArray) = false) (hl : lset l e undef = l')
    (h : wpG P ops Q A G fuel (listed.setIfInBounds i true) ⟨l'.toArray, ds⟩ w) : wpG P ops Q A G (fuel + 1) listed ⟨l.toArray, ds⟩ w := by
  refine wpG_take (v := undef) _ true hf hi (by rw [hd]; exact hQ) (.inl rfl) (.inr ⟨hw, rfl⟩) ?_
  rw [hd, put_lit, hl]
  exact h
theorem wg_loud (i : Nat) (hr : Region.ready .any ops listed = [i]) (ho : ops[i]? = some q) (hw : Region.wanted q (yielded ops l.toArray) = true)
    (h : q.wp P ⟨l.toArray, ds⟩ w (fun a' w' => (A i = true → G w → G w') ∧ wpG P ops Q A G fuel (listed.setIfInBounds i true) a' w') Q) : wpG P ops Q A G (fuel + 1) listed ⟨l.toArray, ds⟩ w :=
  wpG_one hr ho hw h
theorem gsT {L M : List Ch} [ht : HasTail M L] {p : Prop} {g : Prop} (h : Sat w I M) : p → g → ∃ X, Sat w I (X ++ L) := fun _ _ => let ⟨X, e⟩ := ht.has; ⟨X, e ▸ h⟩
theorem gsF {b : Bool} {g g' : Prop} (h : b = false) : b = true → g → g' := fun e => by rw [h] at e; cases e
theorem wp_region_GS {id : Nat} (n : Nat) (A : Nat → Bool) (hm : P.follows .mixedOrders = true) (hn : ops.size = n) (hS : Sat w I L)
    (h : ∀ w', Sat w' I L → wpG P ops Q A (fun w => ∃ X, Sat w I (X ++ L)) n (Array.replicate n false) a w') : (Code.region id ops true).wp P Q a w := by
  refine wp_region_G A (fun w => ∃ X, Sat w I (X ++ L)) hm ?_
  rw [hn]
  exact h _ hS.drew
theorem wp_region_plain {id : Nat} {ol : List Oper} (h : WL P ol.toArray Q ol a w) : (Code.region id ol.toArray false).wp P Q a w := wp_region_lit h.ok
theorem wp_mixed {rs : List Nat} (hr : Region.ready .any ops listed = rs) (hne : rs.isEmpty = false)
    (h : ∀ i ∈ rs, wpOp P ops Q i (fun a' w' => (A i = true → G w → G w') ∧ wpG P ops Q A G fuel (listed.setIfInBounds i true) a' w') a w) : wpG P ops Q A G (fuel + 1) listed a w :=
  wpG_ready hr (by rintro rfl; cases hne) h
theorem wo_of {ops : Array Oper} {i : Nat} {K : Act → World → Prop} (ho : ops[i]? = some q) (hw : Region.wanted q (yielded ops a.tmps) = true) (h : q.wp P a w K Q) : wpOp P ops Q i K a w := by
  unfold wpOp
  rw [ho]
  show if _ then _ else _
  rw [if_pos hw]
  exact .inl h

/-! the same, with what closes by itself as automatic parameters -/
theorem xv (hx : Ex P ⟨l.toArray, ds⟩ q w v) (h : WL P ops Q rest ⟨l'.toArray, ds⟩ w) (hw : Region.wanted q (yielded ops l.toArray) = true := by rfl) (hd : q.dst = some e := by rfl) (hl : lset l e v = l' := by simp only [lset] <;> rfl) :
    WL P ops Q (q :: rest) ⟨l.toArray, ds⟩ w := wl_val hw hd hx hl h
theorem xp (i : Nat) (hi : ops[i]? = some q) (hd : q.dst = some e) (hx : ∀ w, Ex P ⟨l.toArray, ds⟩ q w v) (h : wpG P ops Q A G fuel (listed.setIfInBounds i true) ⟨l'.toArray, ds⟩ w)
    (hf : freeG A (fun j => (aheadOf ops listed i).getD j false) true ops listed i = true := by decide +kernel)
    (hQ : ∀ c a w, Q (.panic c) (a.put (some e) v) w → Q (.panic c) a w := by exact fun _ _ _ h => h) (hw : Region.wanted q (yielded ops l.toArray) = true := by rfl) (hl : lset l e v = l' := by simp only [lset] <;> rfl) :
    wpG P ops Q A G (fuel + 1) listed ⟨l.toArray, ds⟩ w := wg_pure i hf hi hd hQ hw hx hl h
theorem xr (i : Nat) {L : List Ch} {M : List Ch} [ht : HasTail M L] (hS : Sat w I M) (hi : ops[i]? = some q) (hd : q.dst = some e) (hx : ∀ w X, Sat w I (X ++ L) → Ex P ⟨l.toArray, ds⟩ q w v)
    (h : wpG P ops Q A (fun w => ∃ X, Sat w I (X ++ L)) fuel (listed.setIfInBounds i true) ⟨l'.toArray, ds⟩ w)
    (hf : freeG A (fun j => (aheadOf ops listed i).getD j false) false ops listed i = true := by decide +kernel)
    (hQ : ∀ c a w, Q (.panic c) (a.put (some e) v) w → Q (.panic c) a w := by exact fun _ _ _ h => h) (hw : Region.wanted q (yielded ops l.toArray) = true := by rfl) (hl : lset l e v = l' := by simp only [lset] <;> rfl) :
    wpG P ops Q A (fun w => ∃ X, Sat w I (X ++ L)) (fuel + 1) listed ⟨l.toArray, ds⟩ w := wg_read i hS hf hi hd hQ hw hx hl h

/-! operation by operation -/
theorem ex_move (hx : a.eval x = v) : Ex P a ⟨dst, .move x, ty, pos, af, gd⟩ w v := by unfold Ex execOp; simp [hx]
theorem ex_assign (hx : a.eval x = v) : Ex P a ⟨dst, .assign x, ty, pos, af, gd⟩ w v := by unfold Ex execOp; simp [hx]
theorem ex_pickT (hc : a.eval z = .bool true) (hx : a.eval x = v) : Ex P a ⟨dst, .pick z x y, ty, pos, af, gd⟩ w v := by unfold Ex execOp; simp [hx, hc, asBool]
theorem ex_pickF (hc : a.eval z = .bool false) (hx : a.eval y = v) : Ex P a ⟨dst, .pick z x y, ty, pos, af, gd⟩ w v := by unfold Ex execOp; simp [hx, hc, asBool]
theorem ex_pickOr {r s : Bool} (hc : a.eval z = .bool r) (hx : a.eval x = .bool true) (hy : a.eval y = .bool s) : Ex P a ⟨dst, .pick z x y, ty, pos, af, gd⟩ w (.bool (r || s)) := by
  unfold Ex execOp; cases r <;> simp [hx, hy, hc, asBool]
theorem ex_pickAnd {r s : Bool} (hc : a.eval z = .bool r) (hx : a.eval x = .bool s) (hy : a.eval y = .bool false) : Ex P a ⟨dst, .pick z x y, ty, pos, af, gd⟩ w (.bool (r && s)) := by
  unfold Ex execOp; cases r <;> simp [hx, hy, hc, asBool]
theorem ex_nilCheck (hx : a.eval x = .pointer (some p)) : Ex P a ⟨dst, .nilCheck x, ty, pos, af, gd⟩ w (.pointer (some p)) := by unfold Ex execOp; simp [hx]
theorem ex_load (hp : a.eval x = .pointer (some p)) (hr : (loadVar t p).run P w = .ok v w) : Ex P a ⟨dst, .load t x, ty, pos, af, gd⟩ w v := by
  unfold Ex execOp; simp [hp, Instr.loadAt, Instr.sureAddr, hr]
theorem ex_extract {vs : List Value} (hx : a.eval x = .tuple vs.toArray) (hv : vs[k]? = some v) : Ex P a ⟨dst, .extract x k, ty, pos, af, gd⟩ w v := by
  unfold Ex execOp; simp [hx, Instr.extract, hv]

def fieldB (P : Program) (s : TypeId) (f : Nat) : Option Nat :=
  match P.underlying s with
  | some (.struct fields) => (fields[f]?).bind fun f => match P.info? f.type with | some i => if i.size = 0 then none else some f.offset | none => none
  | _ => none
theorem ex_fieldAddr {s f off : Nat} {p' : Addr} (hx : a.eval x = .pointer (some p)) (hf : fieldB P s f = some off) (hp : p.add off = p') : Ex P a ⟨dst, .fieldAddr s x f, ty, pos, af, gd⟩ w (.pointer (some p')) := by
  unfold fieldB at hf
  split at hf
  case h_2 => cases hf
  rename_i fields hu
  cases hq : fields[f]? with
  | none => rw [hq] at hf; cases hf
  | some fl =>
    rw [hq] at hf
    simp only [Option.bind_some] at hf
    split at hf
    case h_2 => cases hf
    rename_i i hi
    split at hf
    case isTrue => cases hf
    rename_i hz
    injection hf with hf
    unfold Ex execOp
    simp [hx, Instr.fieldAt, run_underlying hu, hq, Instr.sureAddr, fieldPlace, sizeOf, typeInfo, hi, hz, hf, hp]
theorem add_lit {b k off k' : Nat} (h : k + off = k') : Addr.add ⟨b, k, none⟩ off = ⟨b, k', none⟩ := by rw [Addr.add_lit, h]
theorem ea_add {off k' : Nat} (hv : IsSl v n) (hn : m < n) (h : k + off = k') : (ea v k).add off = ea v k' := by
  obtain ⟨q, cap, e, _, hq⟩ := hv.ex
  have hne : q ≠ none := fun e => by have := hq e; omega
  obtain ⟨pp, rfl⟩ := Option.ne_none_iff_exists'.1 hne
  subst e
  simp only [ea, Addr.add_add, h]
theorem ex_indexAddr {el : TypeId} {kk : IntKind} {ix : Int} {k' : Nat} (hy : a.eval x = v) (hx : a.eval y = .int kk ix) (hu : sliceB P t = some el) (hs : sizeB P el = some sz) (hk : ix.toNat * sz = k') (hv : IsSl v n) (h0 : 0 ≤ ix) (hn : ix < n) :
    Ex P a ⟨dst, .indexAddr t x y, ty, pos, af, gd⟩ w (.pointer (some (ea v k'))) := by
  subst hk
  obtain ⟨q, cap, e, _, hq⟩ := hv.ex
  unfold sliceB at hu
  split at hu
  case h_2 => cases hu
  rename_i el' he
  injection hu with hu; subst hu
  have hne : q ≠ none := fun e => by have := hq e; omega
  obtain ⟨pp, rfl⟩ := Option.ne_none_iff_exists'.1 hne
  unfold Ex execOp
  simp [Instr.indexAt, asIntOf, hx, hy, e, run_underlying he, h0, hn, run_sizeOf hs, ea]
def arrayB (P : Program) (t : TypeId) : Option (Nat × TypeId) := match P.underlying t with | some (.array n e) => some (n, e) | _ => none
theorem ex_indexAddrA {el : TypeId} {kk : IntKind} {ix : Int} {p' : Addr} (hy : a.eval x = .pointer (some p)) (hx : a.eval y = .int kk ix) (hu : arrayB P t = some (n, el)) (hs : sizeB P el = some sz) (h0 : 0 ≤ ix) (hn : ix < n) (hp : p.add (ix.toNat * sz) = p') :
    Ex P a ⟨dst, .indexAddr t x y, ty, pos, af, gd⟩ w (.pointer (some p')) := by
  subst hp
  unfold arrayB at hu
  split at hu
  case h_2 => cases hu
  rename_i n' el' he
  injection hu with hu; injection hu with e1 e2; subst e1; subst e2
  unfold Ex execOp
  simp [Instr.indexAt, asIntOf, hx, hy, run_underlying he, h0, hn, run_sizeOf hs, Instr.sureAddr]

def cmpV (op : BinOp) (m n : Int) : Option Bool :=
  match op with
  | .eql => some (m == n) | .neq => some (m != n) | .lss => some (decide (m < n)) | .leq => some (decide (m ≤ n)) | .gtr => some (decide (m > n)) | .geq => some (decide (m ≥ n))
  | _ => none
theorem ex_cmp {op : BinOp} {kk : IntKind} {mi ni : Int} {r : Bool} {yt : TypeId} (hx : a.eval x = .int kk mi) (hy : a.eval y = .int kk ni) (hv : cmpV op mi ni = some r) :
    Ex P a ⟨dst, .binOp op t x y yt, ty, pos, af, gd⟩ w (.bool r) := by
  unfold Ex execOp
  cases op <;> simp [cmpV] at hv <;> subst hv <;> simp [eqGuard, hx, hy, binOp, Op.intCmp]
theorem eqlT {m n : Int} (h : m = n) : cmpV .eql m n = some true := by simp [cmpV, h]
theorem eqlF {m n : Int} (h : m ≠ n) : cmpV .eql m n = some false := by simp [cmpV, h]
theorem neqT {m n : Int} (h : m ≠ n) : cmpV .neq m n = some true := by simp [cmpV, h]
theorem neqF {m n : Int} (h : m = n) : cmpV .neq m n = some false := by simp [cmpV, h]
theorem lssT {m n : Int} (h : m < n) : cmpV .lss m n = some true := by simp [cmpV, h]
theorem lssF {m n : Int} (h : n ≤ m) : cmpV .lss m n = some false := by simp [cmpV]; omega
theorem leqT {m n : Int} (h : m ≤ n) : cmpV .leq m n = some true := by simp [cmpV, h]
theorem leqF {m n : Int} (h : n < m) : cmpV .leq m n = some false := by simp [cmpV]; omega
theorem gtrT {m n : Int} (h : n < m) : cmpV .gtr m n = some true := by simp [cmpV, h]
theorem gtrF {m n : Int} (h : m ≤ n) : cmpV .gtr m n = some false := by simp [cmpV]; omega
theorem geqT {m n : Int} (h : n ≤ m) : cmpV .geq m n = some true := by simp [cmpV, h]
theorem geqF {m n : Int} (h : m < n) : cmpV .geq m n = some false := by simp [cmpV]; omega
def arithV (op : BinOp) (m n : Int) : Option Int :=
  match op with
  | .add => some (m + n) | .sub => some (m - n) | .mul => some (m * n)
  | _ => none
theorem ex_arith {op : BinOp} {kk : IntKind} {mi ni r s : Int} {yt : TypeId} (hx : a.eval x = .int kk mi) (hy : a.eval y = .int kk ni) (hv : arithV op mi ni = some r) (hs : kk.wrap r = s) :
    Ex P a ⟨dst, .binOp op t x y yt, ty, pos, af, gd⟩ w (.int kk s) := by
  unfold Ex execOp
  cases op <;> simp [arithV] at hv <;> subst hv <;> subst hs <;> simp [eqGuard, hx, hy, binOp, Op.intArith]
def intB (P : Program) (t : TypeId) : Option IntKind := match P.underlying t with | some (.int k) => some k | _ => none
theorem ex_convII {src dk : TypeId} {ks kd : IntKind} {z s : Int} {bb : Bool} (hx : a.eval x = .int ks z) (hu : intB P dk = some kd) (hus : kindB P src = some bb) (hs : kd.wrap z = s) :
    Ex P a ⟨dst, .convert src dk x, ty, pos, af, gd⟩ w (.int kd s) := by
  subst hs
  unfold intB at hu
  split at hu
  case h_2 => cases hu
  rename_i kd' hu'
  injection hu with hu; subst hu
  unfold kindB at hus
  obtain ⟨us, hus, _⟩ := Option.map_eq_some_iff.1 hus
  unfold Ex execOp
  simp only [Sem.run_bind, convert, run_underlying hus, run_underlying hu', Result.andThen_ok, hx]
  cases us <;> simp [Conv.intToInt]
theorem ex_not {r : Bool} (hx : a.eval x = .bool r) : Ex P a ⟨dst, .unOp .not t x, ty, pos, af, gd⟩ w (.bool (!r)) := by
  unfold Ex execOp; simp [hx, Op.unary]
theorem ex_len {el : TypeId} (hx : a.eval x = v) (hu : sliceB P t = some el) (hv : IsSl v n) : Ex P a ⟨dst, .call ⟨.builtin .len, #[x], #[t]⟩, ty, pos, af, gd⟩ w (.int .i64 n) := by
  obtain ⟨q, cap, e, _⟩ := hv.ex
  unfold sliceB at hu
  split at hu
  case h_2 => cases hu
  rename_i el' he
  unfold Ex
  simp [BigFrame.execOp_builtin, BigFrame.builtin_len, Builtin.len_, run_underlying he, hx, e, goInt]

theorem wl_put {rest : List Oper} {e : Nat} (hl : lset l e v = l') (h : WL P ops Q rest ⟨l'.toArray, ds⟩ w) : WL P ops Q rest (Act.put ⟨l.toArray, ds⟩ (some e) v) w := by
  rw [put_lit, hl]; exact h
theorem wl_put0 {rest : List Oper} (h : WL P ops Q rest a w) : WL P ops Q rest (Act.put a none v) w := h
theorem wg_put {e : Nat} (hG : A i = true → G w → G w') (hl : lset l e v = l') (h : wpG P ops Q A G fuel (listed.setIfInBounds i true) ⟨l'.toArray, ds⟩ w') :
    (A i = true → G w → G w') ∧ wpG P ops Q A G fuel (listed.setIfInBounds i true) (Act.put ⟨l.toArray, ds⟩ (some e) v) w' := by
  rw [put_lit, hl]; exact ⟨hG, h⟩
theorem wg_n (h : wpG P ops Q A G fuel (listed.setIfInBounds i true) a w') : wpG P ops Q A G fuel (listed.setIfInBounds i true) (Act.put a none v) w' := h
theorem wg_p (hl : lset l e v = l') (h : wpG P ops Q A G fuel (listed.setIfInBounds i true) ⟨l'.toArray, ds⟩ w') : wpG P ops Q A G fuel (listed.setIfInBounds i true) (Act.put ⟨l.toArray, ds⟩ (some e) v) w' := by
  rw [put_lit, hl]; exact h
theorem wg_put0 (hG : A i = true → G w → G w') (h : wpG P ops Q A G fuel (listed.setIfInBounds i true) a w') :
    (A i = true → G w → G w') ∧ wpG P ops Q A G fuel (listed.setIfInBounds i true) (Act.put a none v) w' := ⟨hG, h⟩
theorem wg_end (hr : Region.ready .any ops listed = []) (h : Q .normal a w) : wpG P ops Q A G fuel listed a w := wpG_done hr h fuel
theorem wp_val {q : Oper} (hx : Ex P a q w v) (h : K (a.put q.dst v) w) : q.wp P a w K Q := by
  unfold Oper.wp
  rw [show (execOp (Act.eval a) q).run P w = .ok (.value v) w from hx]
  exact h
/-! calls -/
def callB (P : Program) (f : FuncId) : Bool := match P.funcs[f]? with | some fn => fn.body.isSome && fn.name != "runtime.NumGoroutine" | none => false
/-- A call of a Go function that always returns. -/
theorem wp_call {f : FuncId} {args : Array Operand} {vs : Array Value} {ats : Array TypeId} (hf : callB P f = true) (hv : args.map a.eval = vs)
    (h : Calls P f vs w (fun e w' => ∃ v, e = .returned v ∧ K (a.put dst v) w')) : Oper.wp P ⟨dst, .call ⟨.value (.func f), args, ats⟩, ty, pos, af, gd⟩ a w K Q := by
  unfold callB at hf
  split at hf
  case h_2 => cases hf
  rename_i fn hfn
  simp only [Bool.and_eq_true, bne_iff_ne] at hf
  have hrun : (execOp a.eval ⟨dst, .call ⟨.value (.func f), args, ats⟩, ty, pos, af, gd⟩).run P w = .ok (.enter f vs) w := by
    simp [execOp, resolve, Act.eval, Deferred.ofValue, invoke, callFunc, hfn, hf.2, Option.isSome_iff_ne_none.1 hf.1, hv]
  unfold Oper.wp
  rw [hrun]
  refine Calls.mono h ?_
  rintro e w' ⟨v, rfl, hk⟩
  exact hk
end
end Go.SL

/- More operations: what they yield, and what they do to the chunks. -/
namespace Go.SL
open Go.RowKit

def simB (P : Program) (t : TypeId) : Option TypeDesc :=
  match P.underlying t with
  | some (.bool) => some .bool | some (.int k) => some (.int k) | some (.string) => some .string | some (.pointer e) => some (.pointer e)
  | some (.slice e) => some (.slice e) | some (.array n e) => some (.array n e) | some (.map k v) => some (.map k v)
  | _ => none
theorem simB_und {P : Program} {t : TypeId} {d : TypeDesc} (h : simB P t = some d) : P.underlying t = some d := by
  unfold simB at h
  split at h <;> first | (injection h with h; subst h; assumption) | cases h

def EvL (a : Act) : List Operand → List Value → Prop
  | [], vs => vs = []
  | x :: xs, vs => ∃ v r, vs = v :: r ∧ a.eval x = v ∧ EvL a xs r
theorem EvL.n {a : Act} : EvL a [] [] := rfl
theorem EvL.c {a : Act} {x : Operand} {xs : List Operand} {v : Value} {r : List Value} (h : a.eval x = v) (k : EvL a xs r) : EvL a (x :: xs) (v :: r) := ⟨v, r, rfl, h, k⟩
theorem EvL.eq {a : Act} : ∀ {xs : List Operand} {vs : List Value}, EvL a xs vs → xs.map a.eval = vs
  | [], _, h => by cases h; rfl
  | x :: xs, _, ⟨v, r, e, hv, k⟩ => by subst e; simp [hv, k.eq]

/-- The parts of an aggregate, laid into its cells. -/
def Fills (a : Act) (place : Nat → Option (Nat × Nat)) : List (Nat × Operand) → List Value → List Value → Prop
  | [], cells, out => cells = out
  | (i, x) :: r, cells, out => ∃ off sz v vs, place i = some (off, sz) ∧ a.eval x = v ∧ v.cells.toList = vs ∧ vs.length = sz ∧ off + vs.length ≤ cells.length ∧ Fills a place r (splice cells off vs) out
theorem Fills.nil {a : Act} {place : Nat → Option (Nat × Nat)} {cells : List Value} : Fills a place [] cells cells := rfl
theorem Fills.cons {a : Act} {place : Nat → Option (Nat × Nat)} {i : Nat} {x : Operand} {r : List (Nat × Operand)} {cells out vs : List Value} {off sz : Nat} {v : Value}
    (h1 : place i = some (off, sz)) (h2 : a.eval x = v) (h3 : v.cells.toList = vs) (h4 : vs.length = sz) (h5 : Nat.ble (off + vs.length) cells.length = true) (h6 : Fills a place r (splice cells off vs) out) :
    Fills a place ((i, x) :: r) cells out := ⟨off, sz, v, vs, h1, h2, h3, h4, Nat.le_of_ble_eq_true h5, h6⟩
theorem cellsL1 {v : Value} (h : v.oneCell' = true) : v.cells.toList = [v] := by rw [one_cells h]
theorem IsSl.cellsL {v : Value} {n : Nat} (h : IsSl v n) : v.cells.toList = [v] := by rw [h.cells]
theorem foldl_zipIdx_aux (off : Nat) : ∀ (vs pre old post : List Value) (k : Nat), pre.length = off + k → old.length = vs.length →
    (vs.zipIdx k).foldl (fun cs (x : Value × Nat) => cs.setIfInBounds (off + x.2) x.1) (pre ++ old ++ post).toArray = (pre ++ vs ++ post).toArray := by
  intro vs
  induction vs with
  | nil => intro pre old post k _ h; have : old = [] := List.eq_nil_of_length_eq_zero h; subst this; rfl
  | cons v vs ih =>
    intro pre old post k hp ho
    match old, ho with
    | o :: old, ho =>
      simp only [List.zipIdx_cons, List.foldl_cons]
      have e : ((pre ++ o :: old ++ post).toArray).setIfInBounds (off + k) v = ((pre ++ [v]) ++ old ++ post).toArray := by
        rw [List.setIfInBounds_toArray]
        congr 1
        rw [List.append_assoc, List.set_append_right _ _ (by omega), hp, Nat.sub_self]
        simp
      rw [e, ih (pre ++ [v]) old post (k + 1) (by simp; omega) (by simpa using ho)]
      simp
theorem foldl_zipIdx_set (vs : List Value) (off : Nat) (cells : List Value) (h : off + vs.length ≤ cells.length) :
    (vs.zipIdx 0).foldl (fun cs (x : Value × Nat) => cs.setIfInBounds (off + x.2) x.1) cells.toArray = (splice cells off vs).toArray := by
  have e : cells = cells.take off ++ (cells.drop off).take vs.length ++ cells.drop (off + vs.length) := by
    rw [List.append_assoc, ← List.drop_drop, List.take_append_drop, List.take_append_drop]
  have := foldl_zipIdx_aux off vs (cells.take off) ((cells.drop off).take vs.length) (cells.drop (off + vs.length)) 0 (by simp; omega) (by simp; omega)
  rw [← e] at this
  exact this

section
variable {P : Program} {w w' : World} {I J : Gh} {L M : List Ch} {c d : Ch} {b b' : Nat} {o o' : Obj} {E : TypeId} {cs xs ys news : List Value} {v u : Value} {n m k sz : Nat} {p : Addr}
variable {a : Act} {K : Act → World → Prop} {Q : Exit → Act → World → Prop} {dst : Option Tmp} {x y z : Operand} {t ty : TypeId} {pos : String} {af : Array Edge} {gd : Option (Nat × Bool)}

theorem Fills.run {place : Nat → Option (Nat × Nat)} : ∀ {parts : List (Nat × Operand)} {cells out : List Value}, Fills a place parts cells out →
    Instr.fill place cells.toArray (parts.map fun (i, x) => (i, a.eval x)) = some out.toArray := by
  intro parts
  induction parts with
  | nil => intro cells out h; simp [Fills] at h; subst h; rfl
  | cons q parts ih =>
    obtain ⟨i, x⟩ := q
    intro cells out h
    obtain ⟨off, sz, v, vs, h1, h2, h3, h4, h5, h6⟩ := h
    have hsz : v.cells.size = vs.length := by rw [← h3]; simp
    simp only [List.map_cons, Instr.fill, h2, h1]
    have c1 : ¬ (v.cells.size ≠ sz ∨ off + v.cells.size > cells.toArray.size) := by
      rw [hsz, h4]; simp; omega
    have c2 : (decide (v.cells.size ≠ sz) || decide (off + v.cells.size > cells.toArray.size)) = false := by
      simp; rw [hsz]; exact ⟨h4, by simpa using h5⟩
    rw [if_neg (by simpa using c1)]
    have hf : v.cells.zipIdx.foldl (fun cs (x : Value × Nat) => cs.setIfInBounds (off + x.2) x.1) cells.toArray = (splice cells off vs).toArray := by
      rw [← Array.foldl_toList, Array.toList_zipIdx, h3]
      exact foldl_zipIdx_set vs off cells h5
    have := ih h6
    rw [← hf] at this
    exact this

theorem Sat.rowH {rep : Ch → List Ch} (hS : Sat w I L) [hi : HasRow L v E sz n xs rep] : IsSl v n ∧ xs.length = n * sz ∧ RdS w v xs ∧ n ≤ maxLen ∧ Oc xs := by
  obtain ⟨i, hi, _⟩ := hi.has
  exact hS.row i hi

/-! build -/
theorem run_mapM_list {α β : Type} {f : α → Sem β} {g : α → Option β} (h : ∀ x y, g x = some y → ∀ w, (f x).run P w = .ok y w) :
    ∀ (l : List α) (r : List β), l.mapM g = some r → ∀ w, (l.mapM f).run P w = .ok r w
  | [], r, e, w => by simp at e; subst e; simp
  | x :: l, r, e, w => by
    rw [List.mapM_cons] at e
    simp only [Option.bind_eq_bind, Option.bind_eq_some_iff, Option.pure_def, Option.some.injEq] at e
    obtain ⟨y, hy, r', hr', rfl⟩ := e
    simp [List.mapM_cons, h x y hy, run_mapM_list h l r' hr']
def placesB (P : Program) (t : TypeId) : Option (List (Nat × Nat)) :=
  match P.underlying t with
  | some (.struct fields) => fields.toList.mapM fun f => (P.info? f.type).map fun i => (f.offset, i.size)
  | _ => none
theorem ex_buildS {places : List (Nat × Nat)} {zs out : List Value} {parts : List (Nat × Operand)} (hp : placesB P t = some places) (hz : zeroB P t = some zs) (hf : Fills a (fun i => places[i]?) parts zs out) :
    Ex P a ⟨dst, .build t parts.toArray, ty, pos, af, gd⟩ w (.agg out.toArray) := by
  obtain ⟨z, hz1, hz2⟩ := run_zeroValue hz
  unfold placesB at hp
  split at hp
  case h_2 => cases hp
  rename_i fields hu
  have hm := run_mapM_list (P := P) (f := fun f : Field => do pure (f.offset, ← sizeOf f.type)) (g := fun f => (P.info? f.type).map fun i => (f.offset, i.size))
    (fun x y hxy w => by
      obtain ⟨i, hi, rfl⟩ := Option.map_eq_some_iff.1 hxy
      simp [sizeOf, typeInfo, hi]) _ _ hp
  have hr := hf.run
  unfold Ex execOp
  have e1 : z.cells = zs.toArray := by rw [← hz1]
  have e2 : (fun i : Nat => places.toArray[i]?) = (fun i => places[i]?) := by funext i; simp
  simp only [Instr.build, Sem.run_bind, hz2, Result.andThen_ok, run_underlying hu, Array.mapM_eq_mapM_toList, Sem.run_map, hm, e1, List.map_toArray, List.toList_toArray, e2]
  simp only [hr]
  simp
theorem ex_buildA {el : TypeId} {zs out : List Value} {parts : List (Nat × Operand)} (hu : arrayB P t = some (n, el)) (hs : sizeB P el = some sz) (hz : zeroB P t = some zs) (hf : Fills a (fun i => some (i * sz, sz)) parts zs out) :
    Ex P a ⟨dst, .build t parts.toArray, ty, pos, af, gd⟩ w (.agg out.toArray) := by
  obtain ⟨z, hz1, hz2⟩ := run_zeroValue hz
  unfold arrayB at hu
  split at hu
  case h_2 => cases hu
  rename_i n' el' he
  injection hu with hu; injection hu with e1 e2; subst e1; subst e2
  have hr := hf.run
  unfold Ex execOp
  have e1 : z.cells = zs.toArray := by rw [← hz1]
  simp only [Instr.build, Sem.run_bind, hz2, Result.andThen_ok, run_underlying he, run_sizeOf hs, e1, List.map_toArray, List.toList_toArray]
  simp only [hr]
  simp

/-! new slices -/
def rep (n : Nat) (z : List Value) : List Value := (List.replicate n z).flatten
theorem rep_zero (z : List Value) : rep 0 z = [] := rfl
theorem rep_length (n : Nat) (z : List Value) : (rep n z).length = n * z.length := by simp [rep]
theorem rep_one (n : Nat) (u : Value) : rep n [u] = List.replicate n u := by
  induction n with
  | zero => rfl
  | succ n ih => simp only [rep, List.replicate_succ, List.flatten_cons] at ih ⊢; rw [ih]; rfl
theorem rep_cells (z : Array Value) : ∀ n, ((Array.range (n * z.size)).map (z[· % z.size]!)).toList = rep n z.toList := by
  intro n
  have key : ∀ n, ((List.range (n * z.size)).map (z[· % z.size]!)) = rep n z.toList := by
    intro n
    induction n with
    | zero => simp [rep]
    | succ n ih =>
      rw [Nat.succ_mul, Nat.add_comm, List.range_add, List.map_append, List.map_map]
      simp only [rep, List.replicate_succ, List.flatten_cons]
      congr 1
      · apply List.ext_getElem
        · simp
        · intro i h1 h2
          simp at h1 h2
          simp [Nat.mod_eq_of_lt h1, h1]
      · rw [← rep, ← ih]
        apply List.map_congr_left
        intro i _
        simp
  simpa using key n
theorem Oc.rep {z : List Value} (h : Oc z) (n : Nat) : Oc (rep n z) := by
  intro u hu
  simp only [SL.rep, List.mem_flatten, List.mem_replicate] at hu
  obtain ⟨l, ⟨_, rfl⟩, hu⟩ := hu
  exact h u hu
theorem Oc.append {xs ys : List Value} (h : Oc xs) (k : Oc ys) : Oc (xs ++ ys) := fun u hu => (List.mem_append.1 hu).elim (h u) (k u)
theorem Oc.nil : Oc [] := fun _ h => by cases h
theorem Oc.of_all {xs : List Value} (h : xs.all Value.oneCell' = true) : Oc xs := fun u hu => List.all_eq_true.1 h u hu
theorem Sat.newRow (hS : Sat w I L) (hl : cs.length = n * sz) (ho : Oc cs) (hm : n ≤ maxLen) :
    Sat (w.alloc (.cells cs.toArray E)) I (Row (.slice (some ⟨w.heap.size, 0, none⟩) n n) E sz n cs :: L) := by
  refine (hS.alloc (.cells cs.toArray E)).head fun f hf => ⟨⟨hl, ho⟩, .inr ⟨w.heap.size, n, [], rfl, Nat.le_refl _, hm, by simp, ?_⟩⟩
  simpa [Blk] using hf
theorem wp_buildSlice {el : TypeId} {zs out : List Value} {len : Nat} {parts : List (Nat × Operand)} (hu : sliceB P t = some el) (hs : sizeB P el = some sz) (hz : zeroB P el = some zs)
    (hf : Fills a (fun i => some (i * sz, sz)) parts (SL.rep len zs) out) (hS : Sat w I L) (hl : (Nat.ble (len * sz) 16777216 && out.length == len * sz && zs.length == sz && Nat.ble 1 sz) = true) (ho : out.all Value.oneCell' = true)
    (h : ∀ b w', Sat w' I (Row (.slice (some ⟨b, 0, none⟩) len len) el sz len out :: L) → K (a.put dst (.slice (some ⟨b, 0, none⟩) len len)) w') :
    Oper.wp P ⟨dst, .buildSlice t len parts.toArray, ty, pos, af, gd⟩ a w K Q := by
  obtain ⟨z, hz1, hz2⟩ := run_zeroValue hz
  simp only [Bool.and_eq_true, beq_iff_eq] at hl
  obtain ⟨⟨⟨hl1, hl2⟩, hl3⟩, hl4⟩ := hl
  have hl4 := Nat.le_of_ble_eq_true hl4
  have hl1 := Nat.le_of_ble_eq_true hl1
  unfold sliceB at hu
  split at hu
  case h_2 => cases hu
  rename_i el' he
  injection hu with hu; subst hu
  have hr := hf.run
  have hzs : z.cells.size = sz := by rw [← hl3, ← hz1]; simp
  have hlen : len ≤ maxLen := by
    have : len ≤ len * sz := Nat.le_mul_of_pos_right _ hl4
    simp only [maxLen]; omega
  have hcells : ((Array.range (len * sz)).map (z.cells[· % z.cells.size]!)) = (SL.rep len zs).toArray := by
    apply Array.ext'
    have := rep_cells z.cells len
    rw [hzs] at this
    rw [hzs, this, hz1]
  have hbig : ¬ (len * sz > 2 ^ 24) := by omega
  have hnew := h w.heap.size _ (hS.newRow (E := el') hl2 (Oc.of_all ho) hlen)
  unfold Oper.wp execOp
  by_cases h0 : len * sz = 0
  · have hl0 : len = 0 := by
      rcases Nat.mul_eq_zero.1 h0 with h | h
      · exact h
      · omega
    subst hl0
    have e0 : SL.rep 0 zs = [] := by simp [SL.rep]
    rw [e0] at hr
    simp only [Instr.buildSlice, Sem.run_bind, run_underlying he, Result.andThen_ok, run_sizeOf hs, Nat.zero_mul, Nat.not_lt_zero, gt_iff_lt, if_false, Sem.run_pure, if_true, List.map_toArray, List.toList_toArray]
    rw [show (Array.map (fun x => (#[] : Array Value)[x % (#[] : Array Value).size]!) (Array.range 0)) = ([] : List Value).toArray from by simp, hr]
    simp only [newRow, Sem.run_bind, run_newObj, Result.andThen_ok, Sem.run_pure]
    exact hnew
  · simp only [Instr.buildSlice, Sem.run_bind, run_underlying he, Result.andThen_ok, run_sizeOf hs, hbig, h0, if_false, Sem.run_pure, hz2, List.map_toArray, List.toList_toArray]
    rw [hcells, hr]
    simp only [newRow, Sem.run_bind, run_newObj, Result.andThen_ok, Sem.run_pure]
    exact hnew
theorem wp_makeSlice {el : TypeId} {zs : List Value} {by_ : Nat} {kl kc : IntKind} {ln cp : Int} (hx : a.eval x = .int kl ln) (hy : a.eval y = .int kc cp) (hu : sliceB P t = some el) (hs : sizeB P el = some sz) (hb : bytesB P el = some by_) (hz : zeroB P el = some zs)
    (hS : Sat w I L) (hn : ln = (n : Int)) (hc : cp = (n : Int)) (hbn : (by_ : Int) * n ≤ 281474976710656) (hm : (n : Int) ≤ 9223372036854775807) (hzl : (zs.length == sz && zs.all Value.oneCell') = true)
    (h : ∀ b w', Sat w' I (Row (.slice (some ⟨b, 0, none⟩) n n) el sz n (SL.rep n zs) :: L) → K (a.put dst (.slice (some ⟨b, 0, none⟩) n n)) w') :
    Oper.wp P ⟨dst, .makeSlice t x y, ty, pos, af, gd⟩ a w K Q := by
  subst hn; subst hc
  unfold sliceB at hu
  split at hu
  case h_2 => cases hu
  rename_i el' he
  injection hu with hu; subst hu
  unfold sizeB at hs
  unfold bytesB at hb
  unfold zeroB at hz
  cases hi : P.info? el' with
  | none => rw [hi] at hs; cases hs
  | some i =>
    rw [hi] at hs hb hz
    simp only [Option.map_some, Option.some.injEq, Option.bind_some] at hs hb hz
    cases hzz : i.zero with
    | none => rw [hzz] at hz; cases hz
    | some zv =>
      rw [hzz] at hz
      simp only [Option.map_some, Option.some.injEq] at hz
      simp only [Bool.and_eq_true, beq_iff_eq] at hzl
      have hr := run_make (P := P) w t el' i zv he hi hzz kl kc n n (by omega) (Int.le_refl _) (by rw [hb]; exact hbn) hm
      have hcells : madeCells zv.cells ((n : Int).toNat * i.size) = (SL.rep n zs).toArray := by
        apply Array.ext'
        have := rep_cells zv.cells n
        have hsz : zv.cells.size = sz := by rw [← hzl.1, ← hz]; simp
        rw [hsz] at this
        simp only [madeCells, Int.toNat_natCast, hs, hsz]
        rw [this, hz]
      rw [hcells] at hr
      simp only [Int.toNat_natCast] at hr
      have hnew := h w.heap.size _ (hS.newRow (E := el') (cs := SL.rep n zs) (n := n) (sz := sz) (by rw [rep_length, hzl.1]) ((Oc.of_all hzl.2).rep n) (by simp only [maxLen]; omega))
      unfold Oper.wp execOp
      simp only [hx, hy, Sem.run_bind, hr, Result.andThen_ok, Sem.run_pure]
      exact hnew

/-! append -/
structure Src (w : World) (u : Value) (m sz : Nat) (news : List Value) : Prop where
  is : IsSl u m
  len : news.length = m * sz
  rd : RdS w u news
  oc : Oc news
theorem srcR {rep : Ch → List Ch} (hS : Sat w I L) [HasRow L u E sz m news rep] : Src w u m sz news := let ⟨a, b, c, _, d⟩ := hS.rowH (v := u); ⟨a, b, c, d⟩
theorem srcI (hS : Sat w I L) (h : SlI I u m news) (hl : news.length = m * sz) : Src w u m sz news := ⟨h.is, hl, hS.rdSI h, h.oc⟩
theorem srcNil : Src w (.slice none 0 0) 0 sz [] := ⟨IsSl.nil, by simp, (fun _ _ _ e => by cases e), Oc.nil⟩

theorem Sat.updRow {rep : Ch → List Ch} (hS : Sat w I L) [hi : HasRow L v E sz n xs rep] {g cap : Nat} {cur : List Value} (hv : v = .slice (some ⟨g, 0, none⟩) n cap) (hn : m ≤ cap)
    (hl : ys.length = m * sz) (ho : Oc ys) (hc : (ys ++ cur).length = cap * sz) :
    Sat (w.setRow g (ys ++ cur).toArray) I (rep (Row (.slice (some ⟨g, 0, none⟩) m cap) E sz m ys)) := by
  obtain ⟨i, hi, e⟩ := hi.has
  rw [e]
  have h0 := hS.pull i hi
  refine Sat.push i hi ?_
  obtain ⟨⟨f, ⟨gf, m', dj, ef, ⟨⟨hl0, ho0⟩, hc0⟩, hL⟩, hf⟩, r1, r2, r3, r4⟩ := id h0
  subst hv
  rcases hc0 with ⟨e1, _⟩ | ⟨q, cap', r0, e1, hn', hm', hr', hq⟩
  · cases e1
  · injection e1 with e1 _ e2
    injection e1 with e1
    injection e1 with e1
    subst e1; subst e2
    have hb : Sat w I (Blk g (.cells (xs ++ r0).toArray E (0, 0)) :: L.eraseIdx i) := ⟨⟨f, ⟨gf, m', dj, ef, hq, hL⟩, hf⟩, r1, r2, r3, r4⟩
    have hw := hb.write (w' := w.setRow g (ys ++ cur).toArray) (o' := .cells (ys ++ cur).toArray E (0, 0)) (setRow_heap w g _ _ _ _ hb.blk0) (fun k hk => setRow_other w g k _ hk) rfl rfl rfl
    refine hw.head fun f' hf' => ⟨⟨hl, ho⟩, .inr ⟨g, cap, cur, rfl, hn, hm', ?_, hf'⟩⟩
    rw [List.length_append, hl] at hc
    rw [Nat.sub_mul]; omega
theorem Sat.replRow {rep : Ch → List Ch} [hi : HasRow L v E sz n xs rep] {c : Ch} (h : Sat w' I (c :: L)) : Sat w' I (rep c) := by
  obtain ⟨i, hi, e⟩ := hi.has
  rw [e]
  have := (h.pull (i + 1) (c := Row v E sz n xs) (by simpa using hi)).drop
  exact Sat.push i hi (by simpa using this)
theorem set_same {α : Type _} {L : List α} {i : Nat} {c : α} (h : L[i]? = some c) : L.set i c = L := by
  apply List.ext_getElem?
  intro j
  rw [List.getElem?_set]
  by_cases hj : i = j
  · subst hj
    rw [if_pos rfl, h]
    simp [(List.getElem?_eq_some_iff.1 h).1]
  · rw [if_neg hj]
theorem run_append_zero {base a' : Option Addr} {cap c : Nat} (hu : P.underlying t = some (.slice E)) (hs : sizeB P E = some sz) (hn : n ≤ cap) :
    (Builtin.append_ #[t, t] ty #[.slice base n cap, .slice a' 0 c]).run P w = .ok (.slice base n cap) w := by
  unfold sizeB at hs
  cases hi : P.info? E with
  | none => rw [hi] at hs; cases hs
  | some i =>
    cases base <;> cases a' <;> simp [Builtin.append_, run_underlying hu, sizeOf, typeInfo, hi, Builtin.lenOf, Builtin.firstCells, loadCells, loadCellsFrom, storeCells, hn]
theorem append_sat {rep : Ch → List Ch} {by_ : Nat} {zs : List Value} (hu : sliceB P t = some E) (hs : sizeB P E = some sz) (hb : bytesB P E = some by_) (hz : zeroB P E = some zs)
    (hS : Sat w I L) [hi : HasRow L v E sz n xs rep] (hsrc : Src w u m sz news) (hm : n + m ≤ 9223372036854775807) (hbn : (n + m) * by_ ≤ 140737488355328) (hzl : (zs.length == sz && Nat.ble 1 sz) = true) :
    ∃ v' w', (Builtin.append_ #[t, t] ty #[v, u]).run P w = .ok v' w' ∧ Sat w' I (rep (Row v' E sz (n + m) (xs ++ news))) ∧ IsSl v' (n + m) := by
  simp only [Bool.and_eq_true, beq_iff_eq] at hzl
  obtain ⟨hzl, hpos⟩ := hzl
  have hpos := Nat.le_of_ble_eq_true hpos
  have hus := hs
  unfold sliceB at hu
  split at hu
  case h_2 => cases hu
  rename_i el' he
  injection hu with hu; subst hu
  obtain ⟨hvs, hxl, hxr, hxm, hxo⟩ := hS.rowH (v := v)
  obtain ⟨ai, cu, rfl, hcu, hnone⟩ := hsrc.is.ex
  rcases Nat.eq_zero_or_pos m with h0 | h0
  · subst h0
    have hn0 : news = [] := List.eq_nil_of_length_eq_zero (by simpa using hsrc.len)
    subst hn0
    obtain ⟨av, cv, rfl, hcv, _⟩ := hvs.ex
    refine ⟨_, w, run_append_zero he hus hcv, ?_, hvs⟩
    obtain ⟨i, hi, e⟩ := hi.has
    rw [e, Nat.add_zero, List.append_nil, set_same hi]
    exact hS
  · have hne : ai ≠ none := fun e => by have := hnone e; omega
    obtain ⟨ad, rfl⟩ := Option.ne_none_iff_exists'.1 hne
    have hrd := hsrc.rd _ _ _ rfl
    unfold sizeB at hs
    unfold bytesB at hb
    unfold zeroB at hz
    cases hin : P.info? el' with
    | none => rw [hin] at hs; cases hs
    | some i =>
      rw [hin] at hs hb hz
      simp only [Option.map_some, Option.some.injEq, Option.bind_some] at hs hb hz
      cases hzz : i.zero with
      | none => rw [hzz] at hz; cases hz
      | some zv =>
        rw [hzz] at hz
        simp only [Option.map_some, Option.some.injEq] at hz
        have hzs : zv.cells.size = sz := by rw [← hzl, ← hz]; simp
        have hlen : (xs ++ news).length = (n + m) * sz := by rw [List.length_append, hxl, hsrc.len, Nat.add_mul]
        -- what lies in a new block
        have grown : ∀ (old : Nat), Sat (w.drew.alloc (.cells (xs.toArray ++ news.toArray ++ Builtin.zeroCells zv.cells (grownCap w (n + m) old el' - (n + m))) el')) I
            (rep (Row (.slice (some ⟨w.heap.size, 0, none⟩) (n + m) (grownCap w (n + m) old el')) el' sz (n + m) (xs ++ news))) := by
          intro old
          have hge := grownCap_ge w (n + m) old el'
          have hcm : grownCap w (n + m) old el' ≤ maxLen := grownCap_le_maxLen w (n + m) old el' (by simp only [maxLen]; omega)
          refine Sat.replRow (hi := hi) ?_
          refine (hS.drew.alloc _).head fun f hf => ⟨⟨hlen, hxo.append hsrc.oc⟩, .inr ⟨w.heap.size, _, (Builtin.zeroCells zv.cells (grownCap w (n + m) old el' - (n + m))).toList, rfl, hge, hcm, ?_, ?_⟩⟩
          · simp [size_zeroCells, hzs]
          · have : (xs.toArray ++ news.toArray ++ Builtin.zeroCells zv.cells (grownCap w (n + m) old el' - (n + m))) = (xs ++ news ++ (Builtin.zeroCells zv.cells (grownCap w (n + m) old el' - (n + m))).toList).toArray := by
              apply Array.ext'; simp
            rw [← this]
            simpa [Blk] using hf
        obtain ⟨j, hj, ej⟩ := hi.has
        obtain ⟨⟨f, ⟨gf, m', dj, ef, ⟨⟨hl0, ho0⟩, hc0⟩, hL⟩, hf⟩, _⟩ := hS.pull j hj
        rcases hc0 with ⟨rfl, rfl⟩ | ⟨q, cap, rest, rfl, hnc, hcm, hrl, hq⟩
        · have hx0 : xs = [] := List.eq_nil_of_length_eq_zero (by simpa using hxl)
          subst hx0
          have hr := run_append_nil (P := P) w t ty el' i zv he hin hzz ad m cu news (by rw [hsrc.len, hs]) hrd h0 (by omega) (by rw [hb]; simp only [Nat.zero_add] at hbn; omega)
          have hg := grown 0
          simp only [Nat.zero_add, List.nil_append, Array.empty_append] at hg hr ⊢
          refine ⟨_, _, hr, hg, ?_⟩
          exact ⟨_, _, rfl, grownCap_ge w m 0 el', fun e => by cases e⟩
        · have hgb : w.heap[q]? = some (.cells (xs ++ rest).toArray el' (0, 0)) := (hf q _ (by rw [ef]; simp only [Fp.join]; rw [hq]; rfl)).1
          by_cases hroom : n + m ≤ cap
          · have hcs : (xs ++ rest).length = cap * sz := by rw [List.length_append, hxl, hrl, ← Nat.add_mul]; congr 1; omega
            have hr := run_append_room (P := P) w t ty el' i he hin q n cap (xs ++ rest).toArray hgb ad m cu news (by rw [hsrc.len, hs]) hrd hsrc.oc hroom
              (by rw [hs, hsrc.len, ← Nat.add_mul]; simp only [List.size_toArray]; rw [hcs]; exact Nat.mul_le_mul_right _ hroom)
            have e1 : (xs ++ rest).toArray.toList.take (n * i.size) ++ news ++ (xs ++ rest).toArray.toList.drop (n * i.size + news.length) = (xs ++ news) ++ rest.drop news.length := by
              rw [hs, ← hxl]
              simp [List.drop_append]
            rw [e1] at hr
            refine ⟨_, _, hr, ?_, ⟨_, _, rfl, hroom, fun e => by cases e⟩⟩
            refine hS.updRow (hi := hi) (v := .slice (some ⟨q, 0, none⟩) n cap) rfl hroom hlen (hxo.append hsrc.oc) ?_
            have : news.length ≤ rest.length := by rw [hsrc.len, hrl]; exact Nat.mul_le_mul_right _ (by omega)
            rw [List.length_append, hlen, List.length_drop, hrl, hsrc.len, ← Nat.sub_mul, ← Nat.add_mul]; congr 1; omega
          · have holds : ∀ k z, xs[k]? = some z → w.cell? ((⟨q, 0, none⟩ : Addr).add k) = some z := hxr _ _ _ rfl
            have hr := run_append_grow (P := P) w t ty el' i zv he hin hzz ⟨q, 0, none⟩ n cap xs (by rw [hxl, hs]) holds ad m cu news (by rw [hsrc.len, hs]) hrd (by omega) (by omega) (by rw [hb]; exact growslice_fits (by omega) hbn)
            exact ⟨_, _, hr, grown cap, ⟨_, _, rfl, grownCap_ge w (n + m) cap el', fun e => by cases e⟩⟩
theorem wp_append {rep : Ch → List Ch} {by_ : Nat} {zs : List Value} (hx : a.eval x = v) (hy : a.eval y = u) (hu : sliceB P t = some E) (hs : sizeB P E = some sz) (hb : bytesB P E = some by_) (hz : zeroB P E = some zs)
    (hS : Sat w I L) [hi : HasRow L v E sz n xs rep] (hsrc : Src w u m sz news) (hm : n + m ≤ 9223372036854775807) (hbn : (n + m) * by_ ≤ 140737488355328) (hzl : (zs.length == sz && Nat.ble 1 sz) = true)
    (h : ∀ v' w', Sat w' I (rep (Row v' E sz (n + m) (xs ++ news))) → IsSl v' (n + m) → K (a.put dst v') w') :
    Oper.wp P ⟨dst, .call ⟨.builtin .append, #[x, y], #[t, t]⟩, ty, pos, af, gd⟩ a w K Q := by
  obtain ⟨v', w', hr, h1, h2⟩ := append_sat (ty := ty) hu hs hb hz hS (hi := hi) hsrc hm hbn hzl
  unfold Oper.wp execOp
  simp only [resolve, invoke, builtin, Sem.run_bind, Sem.run_pure, Result.andThen_ok, List.map_toArray, List.map_cons, List.map_nil, hx, hy, hr]
  exact h v' w' h1 h2
/-- The same, the source being the first chunk (a new slice): it is let go of. -/
theorem wp_append1 {rep : Ch → List Ch} {by_ : Nat} {zs : List Value} (hx : a.eval x = v) (hy : a.eval y = u) (hu : sliceB P t = some E) (hs : sizeB P E = some sz) (hb : bytesB P E = some by_) (hz : zeroB P E = some zs)
    (hS : Sat w I (Row u E sz m news :: L)) [hi : HasRow L v E sz n xs rep] (hm : n + m ≤ 9223372036854775807) (hbn : (n + m) * by_ ≤ 140737488355328) (hzl : (zs.length == sz && Nat.ble 1 sz) = true)
    (h : ∀ v' w', Sat w' I (rep (Row v' E sz (n + m) (xs ++ news))) → IsSl v' (n + m) → K (a.put dst v') w') :
    Oper.wp P ⟨dst, .call ⟨.builtin .append, #[x, y], #[t, t]⟩, ty, pos, af, gd⟩ a w K Q := by
  have hsrc : Src w u m sz news := srcR hS
  refine wp_append (hi := hi) hx hy hu hs hb hz hS.drop hsrc hm hbn hzl h
end
end Go.SL

/- Still more operations. -/
namespace Go.SL
open Go.RowKit
section
variable {P : Program} {w w' : World} {I J : Gh} {L M : List Ch} {c d : Ch} {b b' : Nat} {o o' : Obj} {E : TypeId} {cs xs ys news : List Value} {v u : Value} {n m k sz : Nat} {p : Addr}
variable {a : Act} {K : Act → World → Prop} {Q : Exit → Act → World → Prop} {dst : Option Tmp} {x y z : Operand} {t ty : TypeId} {pos : String} {af : Array Edge} {gd : Option (Nat × Bool)}

/-- A field's address, in a block written out; in an element of a slice. -/
theorem ex_fa {s f off : Nat} (hx : a.eval x = .pointer (some ⟨b, k, none⟩)) (hf : fieldB P s f = some off) : Ex P a ⟨dst, .fieldAddr s x f, ty, pos, af, gd⟩ w (.pointer (some ⟨b, k + off, none⟩)) :=
  ex_fieldAddr hx hf (by rw [Addr.add_lit])
theorem ea_add' {off : Nat} (v : Value) (hv : ∃ a n c, v = .slice (some a) n c) : (ea v k).add off = ea v (k + off) := by
  obtain ⟨q, n, cap, e⟩ := hv
  subst e
  simp only [ea, Addr.add_add]
theorem ex_faE {s f off : Nat} (hx : a.eval x = .pointer (some (ea v k))) (hf : fieldB P s f = some off) (hv : IsSl v n) (hn : m < n) : Ex P a ⟨dst, .fieldAddr s x f, ty, pos, af, gd⟩ w (.pointer (some (ea v (k + off)))) :=
  ex_fieldAddr hx hf (ea_add hv hn rfl)
theorem ex_ia {el : TypeId} {kk : IntKind} {ix : Int} (hy : a.eval x = v) (hx : a.eval y = .int kk ix) (hu : sliceB P t = some el) (hs : sizeB P el = some sz) (hv : IsSl v n) (h0 : 0 ≤ ix) (hn : ix < n) :
    Ex P a ⟨dst, .indexAddr t x y, ty, pos, af, gd⟩ w (.pointer (some (ea v (ix.toNat * sz)))) := ex_indexAddr hy hx hu hs rfl hv h0 hn
theorem ex_iaN {el : TypeId} {kk : IntKind} {i : Nat} (hy : a.eval x = v) (hx : a.eval y = .int kk (i : Int)) (hu : sliceB P t = some el) (hs : sizeB P el = some sz) (hv : IsSl v n) (hn : (i : Int) < n) :
    Ex P a ⟨dst, .indexAddr t x y, ty, pos, af, gd⟩ w (.pointer (some (ea v (i * sz)))) := ex_indexAddr hy hx hu hs (by simp) hv (by omega) hn
theorem ex_iaA {el : TypeId} {kk : IntKind} {ix : Int} (hy : a.eval x = .pointer (some ⟨b, k, none⟩)) (hx : a.eval y = .int kk ix) (hu : arrayB P t = some (n, el)) (hs : sizeB P el = some sz) (h0 : 0 ≤ ix) (hn : ix < n) :
    Ex P a ⟨dst, .indexAddr t x y, ty, pos, af, gd⟩ w (.pointer (some ⟨b, k + ix.toNat * sz, none⟩)) := ex_indexAddrA hy hx hu hs h0 hn (by rw [Addr.add_lit])

theorem ex_nilCheckF {fn : FuncId} {f1 f2 : Array Value} (hx : a.eval x = .func (.func fn) f1 f2) : Ex P a ⟨dst, .nilCheck x, ty, pos, af, gd⟩ w (.func (.func fn) f1 f2) := by unfold Ex execOp; simp [hx]
theorem equal_bool {r s : Bool} (hu : P.underlying t = some .bool) : (Op.equal t (.bool r) (.bool s)).run P w = .ok (r == s) w := run_equalIn_bool w 9999 t r s hu
theorem equalIn_ptr (d : Nat) {e : TypeId} {q : Option Addr} (hu : P.underlying t = some (.pointer e)) : (Op.equalIn (d + 1) t (.pointer q) (.pointer none)).run P w = .ok q.isNone w := by
  cases q <;> simp [Op.equalIn, run_underlying hu]
theorem equal_ptr {e : TypeId} {q : Option Addr} (hu : P.underlying t = some (.pointer e)) : (Op.equal t (.pointer q) (.pointer none)).run P w = .ok q.isNone w := equalIn_ptr 9999 hu
theorem equalIn_sliceNil (d : Nat) {e : TypeId} {q : Option Addr} {cp : Nat} (hu : P.underlying t = some (.slice e)) : (Op.equalIn (d + 1) t (.slice q n cp) (.slice none 0 0)).run P w = .ok q.isNone w := by
  cases q <;> simp [Op.equalIn, run_underlying hu]
theorem equal_sliceNil {e : TypeId} {q : Option Addr} {cp : Nat} (hu : P.underlying t = some (.slice e)) : (Op.equal t (.slice q n cp) (.slice none 0 0)).run P w = .ok q.isNone w := equalIn_sliceNil 9999 hu
theorem ex_eqlBool {r s : Bool} {yt : TypeId} (hx : a.eval x = .bool r) (hy : a.eval y = .bool s) (hu : P.underlying t = some .bool) : Ex P a ⟨dst, .binOp .eql t x y yt, ty, pos, af, gd⟩ w (.bool (r == s)) := by
  unfold Ex execOp
  simp [eqGuard, hx, hy, binOp, equal_bool hu]
theorem ex_neqBool {r s : Bool} {yt : TypeId} (hx : a.eval x = .bool r) (hy : a.eval y = .bool s) (hu : P.underlying t = some .bool) : Ex P a ⟨dst, .binOp .neq t x y yt, ty, pos, af, gd⟩ w (.bool (r != s)) := by
  unfold Ex execOp
  simp [eqGuard, hx, hy, binOp, equal_bool hu, bne]
theorem ex_eqlPtr {e : TypeId} {q : Option Addr} {yt : TypeId} (hx : a.eval x = .pointer q) (hy : a.eval y = .pointer none) (hu : P.underlying t = some (.pointer e)) : Ex P a ⟨dst, .binOp .eql t x y yt, ty, pos, af, gd⟩ w (.bool q.isNone) := by
  unfold Ex execOp
  simp [eqGuard, hx, hy, binOp, equal_ptr hu]
theorem ex_neqPtr {e : TypeId} {q : Option Addr} {yt : TypeId} (hx : a.eval x = .pointer q) (hy : a.eval y = .pointer none) (hu : P.underlying t = some (.pointer e)) : Ex P a ⟨dst, .binOp .neq t x y yt, ty, pos, af, gd⟩ w (.bool q.isSome) := by
  unfold Ex execOp
  cases q <;> simp [eqGuard, hx, hy, binOp, equal_ptr hu]
theorem ex_eqlPtrS {e : TypeId} {q : Addr} {yt : TypeId} (hx : a.eval x = .pointer (some q)) (hy : a.eval y = .pointer none) (hu : P.underlying t = some (.pointer e)) : Ex P a ⟨dst, .binOp .eql t x y yt, ty, pos, af, gd⟩ w (.bool false) := ex_eqlPtr hx hy hu
theorem ex_eqlPtrN {e : TypeId} {yt : TypeId} (hx : a.eval x = .pointer none) (hy : a.eval y = .pointer none) (hu : P.underlying t = some (.pointer e)) : Ex P a ⟨dst, .binOp .eql t x y yt, ty, pos, af, gd⟩ w (.bool true) := ex_eqlPtr hx hy hu
theorem ex_neqPtrS {e : TypeId} {q : Addr} {yt : TypeId} (hx : a.eval x = .pointer (some q)) (hy : a.eval y = .pointer none) (hu : P.underlying t = some (.pointer e)) : Ex P a ⟨dst, .binOp .neq t x y yt, ty, pos, af, gd⟩ w (.bool true) := ex_neqPtr hx hy hu
theorem ex_neqPtrN {e : TypeId} {yt : TypeId} (hx : a.eval x = .pointer none) (hy : a.eval y = .pointer none) (hu : P.underlying t = some (.pointer e)) : Ex P a ⟨dst, .binOp .neq t x y yt, ty, pos, af, gd⟩ w (.bool false) := ex_neqPtr hx hy hu
theorem ex_eqlSliceNil {e : TypeId} {q : Option Addr} {yt : TypeId} {cp : Nat} (hx : a.eval x = .slice q n cp) (hy : a.eval y = .slice none 0 0) (hu : P.underlying t = some (.slice e)) : Ex P a ⟨dst, .binOp .eql t x y yt, ty, pos, af, gd⟩ w (.bool q.isNone) := by
  unfold Ex execOp
  simp [eqGuard, hx, hy, binOp, equal_sliceNil hu]
theorem ex_eqlStr {r s : ByteArray} {yt : TypeId} (hx : a.eval x = .string r) (hy : a.eval y = .string s) : Ex P a ⟨dst, .binOp .eql t x y yt, ty, pos, af, gd⟩ w (.bool (r.toList == s.toList)) := by
  unfold Ex execOp
  simp [eqGuard, hx, hy, binOp, Op.stringOp]
theorem ex_neqStr {r s : ByteArray} {yt : TypeId} (hx : a.eval x = .string r) (hy : a.eval y = .string s) : Ex P a ⟨dst, .binOp .neq t x y yt, ty, pos, af, gd⟩ w (.bool (!(r.toList == s.toList))) := by
  unfold Ex execOp
  simp [eqGuard, hx, hy, binOp, Op.stringOp]
theorem ex_rem {kk : IntKind} {mi ni : Int} {yt : TypeId} (hx : a.eval x = .int kk mi) (hy : a.eval y = .int kk ni) (hn : ni ≠ 0) (h0 : 0 ≤ mi) : Ex P a ⟨dst, .binOp .rem t x y yt, ty, pos, af, gd⟩ w (.int kk (mi % ni)) := by
  unfold Ex execOp
  simp [eqGuard, hx, hy, binOp, Op.intDiv, hn, Int.tmod_eq_emod_of_nonneg h0]
theorem ex_quo {kk : IntKind} {mi ni r : Int} {yt : TypeId} (hx : a.eval x = .int kk mi) (hy : a.eval y = .int kk ni) (hn : ni ≠ 0) (h0 : 0 ≤ mi) (hw : kk.wrap (mi / ni) = r) : Ex P a ⟨dst, .binOp .quo t x y yt, ty, pos, af, gd⟩ w (.int kk r) := by
  subst hw
  unfold Ex execOp
  simp [eqGuard, hx, hy, binOp, Op.intDiv, hn, Int.tdiv_eq_ediv_of_nonneg h0]
theorem ex_lenStr {r : ByteArray} (hx : a.eval x = .string r) (hu : P.underlying t = some .string) : Ex P a ⟨dst, .call ⟨.builtin .len, #[x], #[t]⟩, ty, pos, af, gd⟩ w (.int .i64 r.size) := by
  unfold Ex
  simp [BigFrame.execOp_builtin, BigFrame.builtin_len, Builtin.len_, run_underlying hu, hx, goInt]
theorem ex_min2 {kk : IntKind} {mi ni : Int} {at_ : Array TypeId} (hx : a.eval x = .int kk mi) (hy : a.eval y = .int kk ni) : Ex P a ⟨dst, .call ⟨.builtin .min, #[x, y], at_⟩, ty, pos, af, gd⟩ w (.int kk (if ni < mi then ni else mi)) := by
  unfold Ex
  simp [BigFrame.execOp_builtin, BigFrame.builtin_min, Builtin.min_, Builtin.min2, hx, hy]
theorem ex_max2 {kk : IntKind} {mi ni : Int} {at_ : Array TypeId} (hx : a.eval x = .int kk mi) (hy : a.eval y = .int kk ni) : Ex P a ⟨dst, .call ⟨.builtin .max, #[x, y], at_⟩, ty, pos, af, gd⟩ w (.int kk (if ni > mi then ni else mi)) := by
  unfold Ex
  simp [BigFrame.execOp_builtin, BigFrame.builtin_max, Builtin.max_, Builtin.max2, hx, hy]
theorem ex_makeFunc {fn : Fn} {f1 f2 : List Operand} {v1 v2 : List Value} (h1 : EvL a f1 v1) (h2 : EvL a f2 v2) : Ex P a ⟨dst, .makeFunc fn f1.toArray f2.toArray, ty, pos, af, gd⟩ w (.func fn v1.toArray v2.toArray) := by
  unfold Ex execOp
  simp [Instr.makeFunc, h1.eq, h2.eq]
theorem ex_sliceArr {el : TypeId} (hx : a.eval x = .pointer (some p)) (hu : arrayB P t = some (n, el)) (hs : sizeB P el = some sz) : Ex P a ⟨dst, .slice t x none none none, ty, pos, af, gd⟩ w (.slice (some p) n n) := by
  unfold arrayB at hu
  split at hu
  case h_2 => cases hu
  rename_i n' el' he
  injection hu with hu; injection hu with e1 e2; subst e1; subst e2
  unfold Ex execOp
  simp [Instr.sliceAt, run_underlying he, hx, Instr.sureAddr, Instr.sliceBounds, run_sizeOf hs, Addr.add_zero']
theorem ex_arrPtr {el : TypeId} (hx : a.eval x = v) (hu : arrayB P t = some (n, el)) (hv : IsSl v m) (hn : n ≤ m) (h0 : 0 < n) : Ex P a ⟨dst, .sliceToArrayPointer t x, ty, pos, af, gd⟩ w (.pointer (some (ea v 0))) := by
  obtain ⟨q, cap, e, _, hq⟩ := hv.ex
  have hne : q ≠ none := fun e => by have := hq e; omega
  obtain ⟨pp, rfl⟩ := Option.ne_none_iff_exists'.1 hne
  unfold arrayB at hu
  split at hu
  case h_2 => cases hu
  rename_i n' el' he
  injection hu with hu; injection hu with e1 e2; subst e1; subst e2
  have : ¬ m < n' := by omega
  unfold Ex execOp
  simp [Instr.arrayAt, run_underlying he, hx, e, this, ea, Addr.add_zero']

/-! bytes -/
def byteV (c : UInt8) : Value := .int .u8 c.toNat
theorem run_bytesStr {bs : List UInt8} (hr : RdS w v (bs.map byteV)) (hv : IsSl v bs.length) : (Conv.bytesToString v).run P w = .ok (.string ⟨bs.toArray⟩) w := by
  obtain ⟨q, cap, rfl, _, hq⟩ := hv.ex
  cases q with
  | none =>
    have : bs = [] := List.eq_nil_of_length_eq_zero (hq rfl)
    subst this
    simp [Conv.bytesToString]
    rfl
  | some q =>
    have h1 := run_loadCells_list (P := P) w q (bs.map byteV) (hr _ _ _ rfl)
    have h2 := run_bytesToString (P := P) w q bs.length cap (bs.map fun c => (c.toNat : Int)) (by
      rw [List.length_map] at h1
      rw [h1]
      congr 2
      rw [List.map_map]
      rfl)
    rw [h2]
    congr 2
    rw [List.foldl_map]
    have key : ∀ (l : List UInt8) (r : ByteArray), l.foldl (fun r (c : UInt8) => r.push (UInt8.ofNat (c.toNat : Int).toNat)) r = ⟨r.data ++ l.toArray⟩ := by
      intro l
      induction l with
      | nil => intro r; simp
      | cons c l ih =>
        intro r
        rw [List.foldl_cons, ih]
        have e : UInt8.ofNat (c.toNat : Int).toNat = c := by simp
        rw [e]
        congr 1
        apply Array.ext'
        simp [ByteArray.push]
    rw [key]
    congr 1
    apply Array.ext'
    simp [ByteArray.empty, ByteArray.emptyWithCapacity]
    rfl
theorem ex_bytesStr {src dk el : TypeId} {bs : List UInt8} (hx : a.eval x = v) (hu : sliceB P src = some el) (he : intB P el = some .u8) (hd : P.underlying dk = some .string) (hr : RdS w v (bs.map byteV)) (hv : IsSl v bs.length) :
    Ex P a ⟨dst, .convert src dk x, ty, pos, af, gd⟩ w (.string ⟨bs.toArray⟩) := by
  unfold sliceB at hu
  split at hu
  case h_2 => cases hu
  rename_i el' hel
  injection hu with hu; subst hu
  unfold intB at he
  split at he
  case h_2 => cases he
  rename_i kd' he'
  injection he with he; subst he
  have h := run_bytesStr (P := P) hr hv
  obtain ⟨q, cap, rfl, _, hq⟩ := hv.ex
  unfold Ex execOp
  simp [hx, run_convert_bytes_string w src dk el' q bs.length cap hel he' hd, h]

/-! the results: a slot, a cell of its own -/
theorem wp_callV {f : FuncId} {fo : Operand} {cap : List Value} {args : List Operand} {vs : List Value} {ats : Array TypeId} (hfo : a.eval fo = .func (.func f) #[] cap.toArray) (hf : callB P f = true) (hv : EvL a args vs)
    (h : Calls P f (vs ++ cap).toArray w (fun e w' => ∃ v, e = .returned v ∧ K (a.put dst v) w')) : Oper.wp P ⟨dst, .call ⟨.value fo, args.toArray, ats⟩, ty, pos, af, gd⟩ a w K Q := by
  unfold callB at hf
  split at hf
  case h_2 => cases hf
  rename_i fn hfn
  simp only [Bool.and_eq_true, bne_iff_ne] at hf
  have hrun : (execOp a.eval ⟨dst, .call ⟨.value fo, args.toArray, ats⟩, ty, pos, af, gd⟩).run P w = .ok (.enter f (vs ++ cap).toArray) w := by
    simp [execOp, resolve, hfo, Deferred.ofValue, invoke, callFunc, hfn, hf.2, Option.isSome_iff_ne_none.1 hf.1, hv.eq]
  unfold Oper.wp
  rw [hrun]
  refine Calls.mono h ?_
  rintro e w' ⟨v, rfl, hk⟩
  exact hk
theorem wp_callL {f : FuncId} {args : List Operand} {vs : List Value} {ats : Array TypeId} (hf : callB P f = true) (hv : EvL a args vs)
    (h : Calls P f vs.toArray w (fun e w' => ∃ v, e = .returned v ∧ K (a.put dst v) w')) : Oper.wp P ⟨dst, .call ⟨.value (.func f), args.toArray, ats⟩, ty, pos, af, gd⟩ a w K Q := by
  have := wp_callV (fo := .func f) (cap := []) (a := a) (w := w) (K := K) (Q := Q) (dst := dst) (ats := ats) (ty := ty) (pos := pos) (af := af) (gd := gd) rfl hf hv (by simpa using h)
  exact this

/-- The function's end: what its result variables hold. -/
def ResL (P : Program) (w : World) (l : List Value) : List ResultVar → List Value → Prop
  | [], vs => vs = []
  | .tmp t :: rs, vs => ∃ v r, vs = v :: r ∧ l[t]? = some v ∧ ResL P w l rs r
  | .cell t ty :: rs, vs => ∃ v r p, vs = v :: r ∧ l[t]? = some (.pointer (some p)) ∧ (loadVar ty p).run P w = .ok v w ∧ ResL P w l rs r
theorem ResL.rn {l : List Value} : ResL P w l [] [] := rfl
theorem ResL.rt {l : List Value} {t : Nat} {rs : List ResultVar} {r : List Value} (h : l[t]? = some v) (k : ResL P w l rs r) : ResL P w l (.tmp t :: rs) (v :: r) := ⟨v, r, rfl, h, k⟩
theorem ResL.rc {l : List Value} {t : Nat} {ty : TypeId} {rs : List ResultVar} {r : List Value} (h : l[t]? = some (.pointer (some p))) (hr : (loadVar ty p).run P w = .ok v w) (k : ResL P w l rs r) : ResL P w l (.cell t ty :: rs) (v :: r) := ⟨v, r, p, rfl, h, hr, k⟩
theorem ResL.run {l : List Value} : ∀ {rs : List ResultVar} {vs : List Value}, ResL P w l rs vs →
    (rs.mapM (fun | .tmp t => pure (l.toArray.getD t undef) | .cell a t => do loadVar t (← asAddr (l.toArray.getD a undef)) : ResultVar → Sem Value)).run P w = .ok vs w
  | [], _, h => by cases h; simp
  | .tmp t :: rs, _, ⟨v, r, e, hv, k⟩ => by
    subst e
    have := k.run
    simp only [List.mapM_cons, Sem.run_bind, Sem.run_pure, Result.andThen_ok, this]
    simp [hv]
  | .cell t ty :: rs, _, ⟨v, r, p, e, hv, hr, k⟩ => by
    subst e
    have := k.run
    have hg : l.toArray.getD t undef = .pointer (some p) := by simp [hv]
    have ha : (asAddr (l.toArray.getD t undef)).run P w = .ok p w := by rw [hg]; rfl
    simp only [List.mapM_cons, Sem.run_bind, ha, Sem.run_pure, Result.andThen_ok, hr, this]
theorem res_run {fn : Func} {l vs : List Value} {rs : List ResultVar} (hf : fn.results = rs.toArray) (h : ResL P w l rs vs) :
    (results fn l.toArray).run P w = .ok (if h : vs.toArray.size = 1 then vs.toArray[0] else .tuple vs.toArray) w := by
  unfold results
  rw [hf]
  have := h.run
  simp only [Sem.run_bind, Array.mapM_eq_mapM_toList, Sem.run_map]
  erw [this]
  rfl
theorem end1 {fn : Func} {R : Ending → World → Prop} {l : List Value} {rs : List ResultVar} {e : Exit} (he : e = .ret ∨ e = .normal) (hf : fn.results = rs.toArray) (h : ResL P w l rs [v]) (hR : R (.returned v) w) : bodyPost P fn R e ⟨l.toArray, []⟩ w := by
  have := res_run hf h
  rcases he with rfl | rfl
  · exact bodyPost_ret (v := v) (by simpa using this) rfl hR
  · exact bodyPost_end (v := v) (by simpa using this) rfl hR
theorem endN {fn : Func} {R : Ending → World → Prop} {l vs : List Value} {rs : List ResultVar} {e : Exit} (he : e = .ret ∨ e = .normal) (hf : fn.results = rs.toArray) (h : ResL P w l rs vs) (hn : (vs.length == 1) = false) (hR : R (.returned (.tuple vs.toArray)) w) : bodyPost P fn R e ⟨l.toArray, []⟩ w := by
  have := res_run hf h
  have hn' : ¬ vs.length = 1 := by simpa using hn
  rcases he with rfl | rfl
  · exact bodyPost_ret (v := .tuple vs.toArray) (by simpa [hn'] using this) rfl hR
  · exact bodyPost_end (v := .tuple vs.toArray) (by simpa [hn'] using this) rfl hR

/-! loops -/
def havoc : List Bool → List Value → (Nat → Value) → Nat → List Value
  | true :: ms, _ :: l, f, i => f i :: havoc ms l f (i + 1)
  | false :: ms, x :: l, f, i => x :: havoc ms l f (i + 1)
  | _, l, _, _ => l
/-- A round's end: the next round's head. -/
def LpN (ms : List Bool) (l : List Value) (ds : List Deferred) (R : (Nat → Value) → World → Prop) (μ : (Nat → Value) → World → Nat) (m : Nat) : Act → World → Prop := fun a' w' =>
  ∃ f', a' = ⟨(havoc ms l f' 0).toArray, ds⟩ ∧ f' = nth (havoc ms l f' 0) ∧ R f' w' ∧ μ f' w' < m
/-- A loop: 'ms' marks the slots that a round may write; R: what holds of them at the head of each round. -/
theorem wp_loopR {c : Code} {l : List Value} {ds : List Deferred} (ms : List Bool) (R : (Nat → Value) → World → Prop) (μ : (Nat → Value) → World → Nat) (h0 : havoc ms l (nth l) 0 = l) (hR : R (nth l) w)
    (round : ∀ f w, R f w → c.wp P (Exit.then (LpN ms l ds R μ (μ f w)) Q) ⟨(havoc ms l f 0).toArray, ds⟩ w) : (Code.loop c).wp P Q ⟨l.toArray, ds⟩ w := by
  refine wp_loop (fun a' w' => ∃ f', a' = ⟨(havoc ms l f' 0).toArray, ds⟩ ∧ f' = nth (havoc ms l f' 0) ∧ R f' w') (fun a' w' => μ (nth a'.tmps.toList) w') ⟨nth l, by rw [h0], by rw [h0], hR⟩ ?_
  rintro a' w' ⟨f', rfl, hf, hR'⟩
  refine Code.wp_mono ?_ (round f' w' hR')
  intro e a2 w2 h
  cases e with
  | normal =>
    obtain ⟨f2, rfl, hf2, hR2, hm⟩ := h
    refine ⟨⟨f2, rfl, hf2, hR2⟩, ?_⟩
    rw [← hf, ← hf2]
    exact hm
  | _ => exact h
theorem loopEnd {l l' : List Value} {ds : List Deferred} {ms : List Bool} {R : (Nat → Value) → World → Prop} {μ : (Nat → Value) → World → Nat} {m : Nat} (hl : havoc ms l (nth l') 0 = l') (hR : R (nth l') w) (hm : μ (nth l') w < m) :
    LpN ms l ds R μ m ⟨l'.toArray, ds⟩ w :=
  ⟨nth l', by rw [hl], by rw [hl], hR, hm⟩
def ivN : Value → Nat | .int _ n => n.toNat | _ => 0

/-! reading the elements of a slice -/
theorem ldE1 (hr : RdS w v xs) (hv : IsSl v n) (hn : m < n) (hk : kindB P t = some false) (hc : xs[k]? = some u) : (loadVar t (ea v k)).run P w = .ok u w := by
  refine run_load1 hk ?_
  have := Sat.rdEl (k := k) hr hv hn 0 u (by simpa [List.getElem?_drop] using hc)
  rwa [Addr.add_zero'] at this
theorem ldEN (hr : RdS w v xs) (hv : IsSl v n) (hn : m < n) (hk : kindB P t = some true) (hs : sizeB P t = some sz) (hy : sub xs k sz = ys) (hl : ys.length = sz) : (loadVar t (ea v k)).run P w = .ok (.agg ys.toArray) w := by
  rw [← hy] at hl ⊢
  exact run_loadN hk (by rw [hl]; exact hs) ((Sat.rdEl (k := k) hr hv hn).take _)
theorem ldA (hr : RdS w v xs) (hv : IsSl v n) (hn : 0 < n) (hk : kindB P t = some true) (hs : sizeB P t = some sz) (hl : xs.length = sz) : (loadVar t (ea v 0)).run P w = .ok (.agg xs.toArray) w :=
  ldEN hr hv hn hk hs (by rw [← hl]; simp [sub]) hl
theorem splice_all {cs vs : List Value} (h : cs.length = vs.length) : splice cs 0 vs = vs := by
  simp [splice, ← h]
theorem fillsOneN {zs vs : List Value} (hx : a.eval x = .agg vs.toArray) (hl : vs.length = sz) (hz : (zs.length == sz) = true) : Fills a (fun i => some (i * sz, sz)) [(0, x)] (SL.rep 1 zs) vs := by
  have hz := beq_iff_eq.1 hz
  have e : SL.rep 1 zs = zs := by simp [SL.rep]
  rw [e]
  refine ⟨0, sz, _, vs, by simp, hx, by simp [Value.cells], hl, by omega, splice_all (by omega)⟩
theorem fillsOne1 {z0 : Value} (hx : a.eval x = u) (h1 : u.oneCell' = true) : Fills a (fun i => some (i * 1, 1)) [(0, x)] (SL.rep 1 [z0]) [u] :=
  ⟨0, 1, _, [u], by simp, hx, by rw [one_cells h1], rfl, by simp [SL.rep], by simp [SL.rep, splice, Fills]⟩
end
end Go.SL

/- Loops whose measure is part of what holds at the head. -/
namespace Go.SL
section
variable {P : Program} {w w' : World} {Q : Exit → Act → World → Prop}
def LpM (ms : List Bool) (l : List Value) (ds : List Deferred) (R : Nat → (Nat → Value) → World → Prop) (n : Nat) : Act → World → Prop := fun a' w' =>
  ∃ f', a' = ⟨(havoc ms l f' 0).toArray, ds⟩ ∧ f' = nth (havoc ms l f' 0) ∧ ∃ n', n' < n ∧ R n' f' w'
theorem least {p : Nat → Prop} : ∀ {n : Nat}, p n → ∃ m, p m ∧ ∀ k, p k → m ≤ k := by
  intro n
  induction n using Nat.strongRecOn with
  | ind n ih =>
    intro hn
    by_cases h : ∃ m, m < n ∧ p m
    · obtain ⟨m, hm, hp⟩ := h
      exact ih m hm hp
    · refine ⟨n, hn, fun k hk => ?_⟩
      rcases Nat.lt_or_ge k n with h2 | h2
      · exact absurd ⟨k, h2, hk⟩ h
      · exact h2
open Classical in
noncomputable def leastOf (p : Nat → Prop) : Nat := if h : ∃ n, p n then Classical.choose (least h.choose_spec) else 0
theorem leastOf_spec {p : Nat → Prop} {n : Nat} (h : p n) : p (leastOf p) ∧ leastOf p ≤ n := by
  have h0 : ∃ n, p n := ⟨n, h⟩
  have h1 := Classical.choose_spec (least h0.choose_spec)
  unfold leastOf
  rw [dif_pos h0]
  exact ⟨h1.1, h1.2 n h⟩
theorem wp_loopM {c : Code} {l : List Value} {ds : List Deferred} (ms : List Bool) (R : Nat → (Nat → Value) → World → Prop) (h0 : havoc ms l (nth l) 0 = l) (n0 : Nat) (hR : R n0 (nth l) w)
    (round : ∀ n f w, R n f w → c.wp P (Exit.then (LpM ms l ds R n) Q) ⟨(havoc ms l f 0).toArray, ds⟩ w) : (Code.loop c).wp P Q ⟨l.toArray, ds⟩ w := by
  refine wp_loopR ms (fun f w => ∃ n, R n f w) (fun f w => leastOf (fun n => R n f w)) h0 ⟨n0, hR⟩ ?_
  rintro f w ⟨n, hn⟩
  have h1 := leastOf_spec (p := fun n => R n f w) hn
  refine Code.wp_mono ?_ (round _ f w h1.1)
  intro e a2 w2 h
  cases e with
  | normal =>
    obtain ⟨f2, e1, e2, n', hlt, hR2⟩ := h
    exact ⟨f2, e1, e2, ⟨n', hR2⟩, Nat.lt_of_le_of_lt (leastOf_spec (p := fun n => R n f2 w2) hR2).2 hlt⟩
  | _ => exact h
theorem loopEndM {l l' : List Value} {ds : List Deferred} {ms : List Bool} {R : Nat → (Nat → Value) → World → Prop} {n : Nat} (hl : havoc ms l (nth l') 0 = l') (n' : Nat) (hR : R n' (nth l') w) (hm : n' < n) :
    LpM ms l ds R n ⟨l'.toArray, ds⟩ w :=
  ⟨nth l', by rw [hl], by rw [hl], n', hm, hR⟩
end
end Go.SL

/- Maps with int keys, as chunks. -/
namespace Go.SL
open Go.RowKit

/-- Block m is a map whose entries are kv, in the order in which they came. -/
def MapI (m : Nat) (kv : List (Int × Value)) : Ch := fun f => ∃ es clock, f m = some (.map es clock) ∧ es.toList.map (fun e => (e.key, e.val)) = kv.map (fun p => (Value.int .i64 p.1, p.2)) ∧
  (kv.map Prod.fst).Nodup ∧ (es.toList.map (·.born)).Nodup ∧ ∀ e ∈ es.toList, e.born < clock

def kvSet {β : Type} : List (Int × β) → Int → β → List (Int × β)
  | [], k, v => [(k, v)]
  | (j, u) :: r, k, v => if j = k then (j, v) :: r else (j, u) :: kvSet r k v
def kvDel {β : Type} : List (Int × β) → Int → List (Int × β)
  | [], _ => []
  | (j, u) :: r, k => if j = k then r else (j, u) :: kvDel r k
def kvGet {β : Type} : List (Int × β) → Int → Option β
  | [], _ => none
  | (j, u) :: r, k => if j = k then some u else kvGet r k

theorem kvSet_keys {β : Type} (kv : List (Int × β)) (k : Int) (v : β) : (kvSet kv k v).map Prod.fst = if k ∈ kv.map Prod.fst then kv.map Prod.fst else kv.map Prod.fst ++ [k] := by
  induction kv with
  | nil => simp [kvSet]
  | cons p r ih =>
    obtain ⟨j, u⟩ := p
    simp only [kvSet]
    by_cases h : j = k
    · simp [h]
    · simp only [h, if_false, List.map_cons, ih, List.mem_cons]
      have : ¬ k = j := fun e => h e.symm
      by_cases h2 : k ∈ r.map Prod.fst
      · simp [h2]
      · simp [h2, this]
theorem kvDel_sub {β : Type} (kv : List (Int × β)) (k : Int) : ((kvDel kv k).map Prod.fst).Sublist (kv.map Prod.fst) := by
  induction kv with
  | nil => simp [kvDel]
  | cons p r ih =>
    obtain ⟨j, u⟩ := p
    simp only [kvDel]
    by_cases h : j = k
    · simp [h]
    · simp [h, ih]
theorem kvGet_none {β : Type} {kv : List (Int × β)} {k : Int} : kvGet kv k = none ↔ k ∉ kv.map Prod.fst := by
  induction kv with
  | nil => simp [kvGet]
  | cons p r ih =>
    obtain ⟨j, u⟩ := p
    simp only [kvGet]
    by_cases h : j = k
    · simp [h]
    · have : ¬ k = j := fun e => h e.symm
      simp [h, ih, this]
theorem kvGet_set {β : Type} (kv : List (Int × β)) (k j : Int) (v : β) : kvGet (kvSet kv k v) j = if j = k then some v else kvGet kv j := by
  induction kv with
  | nil =>
    simp only [kvSet, kvGet]
    by_cases h : j = k
    · simp [h]
    · have : ¬ k = j := fun e => h e.symm
      simp [h, this]
  | cons p r ih =>
    obtain ⟨i, u⟩ := p
    simp only [kvSet]
    by_cases h : i = k
    · subst h
      simp only [if_true, kvGet]
      by_cases h2 : i = j
      · simp [h2]
      · have : ¬ j = i := fun e => h2 e.symm
        simp [h2, this]
    · simp only [h, if_false, kvGet, ih]
      by_cases h2 : i = j
      · subst h2; simp [h]
      · simp [h2]
theorem kvGet_del {β : Type} (kv : List (Int × β)) (hn : (kv.map Prod.fst).Nodup) (k j : Int) : kvGet (kvDel kv k) j = if j = k then none else kvGet kv j := by
  induction kv with
  | nil => simp [kvDel, kvGet]
  | cons p r ih =>
    obtain ⟨i, u⟩ := p
    simp only [List.map_cons, List.nodup_cons] at hn
    simp only [kvDel]
    by_cases h : i = k
    · subst h
      simp only [if_true, kvGet]
      by_cases h2 : i = j
      · subst h2; simp [kvGet_none.2 hn.1]
      · have : ¬ j = i := fun e => h2 e.symm
        simp [h2, this]
    · simp only [h, if_false, kvGet, ih hn.2]
      by_cases h2 : i = j
      · subst h2; simp [h]
      · simp [h2]

theorem kvGet_map {β γ : Type} (f : β → γ) (k : Int) : ∀ (kv : List (Int × β)), kvGet (kv.map fun p => (p.1, f p.2)) k = (kvGet kv k).map f
  | [] => rfl
  | (j, u) :: r => by simp only [List.map_cons, kvGet]; by_cases h : j = k <;> simp [h, kvGet_map f k r]
theorem kvSet_map {β γ : Type} (f : β → γ) (k : Int) (v : β) : ∀ (kv : List (Int × β)), kvSet (kv.map fun p => (p.1, f p.2)) k (f v) = (kvSet kv k v).map fun p => (p.1, f p.2)
  | [] => rfl
  | (j, u) :: r => by simp only [List.map_cons, kvSet]; by_cases h : j = k <;> simp [h, kvSet_map f k v r]
theorem kvDel_map {β γ : Type} (f : β → γ) (k : Int) : ∀ (kv : List (Int × β)), kvDel (kv.map fun p => (p.1, f p.2)) k = (kvDel kv k).map fun p => (p.1, f p.2)
  | [] => rfl
  | (j, u) :: r => by simp only [List.map_cons, kvDel]; by_cases h : j = k <;> simp [h, kvDel_map f k r]

/-! the entries -/
theorem findNow_int (kd : IntKind) (k : Int) : ∀ (es : List MapEntry) (kv : List (Int × Value)) (i : Nat), es.map (fun e => (e.key, e.val)) = kv.map (fun p => (Value.int .i64 p.1, p.2)) →
    Instr.findNow (.int kd) (.int .i64 k) es i = some (match kv.findIdx? (fun p => p.1 == k) with | some j => (kvGet kv k).map fun v => (i + j, v) | none => none)
  | [], kv, i, h => by
    have : kv = [] := by cases kv <;> simp at h ⊢
    subst this
    simp [Instr.findNow]
  | e :: es, kv, i, h => by
    cases kv with
    | nil => simp at h
    | cons p r =>
      obtain ⟨j, u⟩ := p
      simp only [List.map_cons, List.cons.injEq, Prod.mk.injEq] at h
      obtain ⟨⟨hk, hv⟩, hr⟩ := h
      simp only [Instr.findNow, hk, Instr.sameNow, if_true, List.findIdx?_cons, kvGet]
      by_cases hj : j = k
      · subst hj; simp [hv]
      · have hj' : (j == k) = false := by simpa using hj
        have hj2 : (k == j) = false := by simpa using fun e => hj e.symm
        simp only [hj', hj2, hj, if_false, Bool.false_eq_true]
        rw [findNow_int kd k es r (i + 1) hr]
        cases hf : r.findIdx? (fun p => p.1 == k) with
        | none => simp
        | some m => simp; cases kvGet r k <;> simp; omega
theorem kvGet_idx (k : Int) : ∀ (kv : List (Int × Value)), (kv.findIdx? (fun p => p.1 == k)).isSome = (kvGet kv k).isSome
  | [] => rfl
  | (j, u) :: r => by
    simp only [List.findIdx?_cons, kvGet]
    by_cases hj : j = k
    · simp [hj]
    · have hj' : (j == k) = false := by simpa using hj
      simp [hj', hj, kvGet_idx k r]
theorem kvSet_some (k : Int) (v : Value) : ∀ (kv : List (Int × Value)) (i : Nat), kv.findIdx? (fun p => p.1 == k) = some i → kvSet kv k v = kv.modify i (fun p => (p.1, v)) ∧ (kv[i]?).map Prod.fst = some k ∧ i < kv.length
  | [], i, h => by simp at h
  | (j, u) :: r, i, h => by
    simp only [List.findIdx?_cons] at h
    by_cases hj : j = k
    · simp [hj] at h; subst h; simp [kvSet, hj]
    · have hj' : (j == k) = false := by simpa using hj
      simp only [hj', Bool.false_eq_true, if_false, Option.map_eq_some_iff] at h
      obtain ⟨m, hm, rfl⟩ := h
      obtain ⟨a, b, c⟩ := kvSet_some k v r m hm
      exact ⟨by simp [kvSet, hj, a], by simpa using b, by simpa using c⟩
theorem kvSet_none (k : Int) (v : Value) : ∀ (kv : List (Int × Value)), kv.findIdx? (fun p => p.1 == k) = none → kvSet kv k v = kv ++ [(k, v)]
  | [], _ => rfl
  | (j, u) :: r, h => by
    simp only [List.findIdx?_cons] at h
    by_cases hj : j = k
    · simp [hj] at h
    · have hj' : (j == k) = false := by simpa using hj
      simp only [hj', Bool.false_eq_true, if_false, Option.map_eq_none_iff] at h
      simp [kvSet, hj, kvSet_none k v r h]
theorem kvDel_some (k : Int) : ∀ (kv : List (Int × Value)) (i : Nat), kv.findIdx? (fun p => p.1 == k) = some i → kvDel kv k = kv.eraseIdx i
  | [], i, h => by simp at h
  | (j, u) :: r, i, h => by
    simp only [List.findIdx?_cons] at h
    by_cases hj : j = k
    · simp [hj] at h; subst h; simp [kvDel, hj]
    · have hj' : (j == k) = false := by simpa using hj
      simp only [hj', Bool.false_eq_true, if_false, Option.map_eq_some_iff] at h
      obtain ⟨m, hm, rfl⟩ := h
      simp [kvDel, hj, kvDel_some k r m hm]
theorem kvDel_none (k : Int) : ∀ (kv : List (Int × Value)), kv.findIdx? (fun p => p.1 == k) = none → kvDel kv k = kv
  | [], _ => rfl
  | (j, u) :: r, h => by
    simp only [List.findIdx?_cons] at h
    by_cases hj : j = k
    · simp [hj] at h
    · have hj' : (j == k) = false := by simpa using hj
      simp only [hj', Bool.false_eq_true, if_false, Option.map_eq_none_iff] at h
      simp [kvDel, hj, kvDel_none k r h]

class HasMap (L : List Ch) (m : Nat) (kv : outParam (List (Int × Value))) (rep : outParam (Ch → List Ch)) : Prop where
  has : ∃ i, L[i]? = some (MapI m kv) ∧ ∀ c, rep c = L.set i c
instance HasMap.here {m : Nat} {kv : List (Int × Value)} {L : List Ch} : HasMap (MapI m kv :: L) m kv (fun c => c :: L) := ⟨0, rfl, fun _ => rfl⟩
instance (priority := 500) HasMap.there {m : Nat} {kv : List (Int × Value)} {L : List Ch} {x : Ch} {rep : Ch → List Ch} [h : HasMap L m kv rep] : HasMap (x :: L) m kv (fun c => x :: rep c) :=
  ⟨let ⟨i, a, e⟩ := h.has; ⟨i + 1, by simpa using a, fun c => by simp [e c]⟩⟩
instance HasMap.past {m : Nat} {kv : List (Int × Value)} {X L : List Ch} {rep : Ch → List Ch} [h : HasMap L m kv rep] : HasMap (X ++ L) m kv (fun c => X ++ rep c) :=
  ⟨let ⟨i, a, e⟩ := h.has; ⟨X.length + i, by rw [List.getElem?_append_right (Nat.le_add_right _ _), Nat.add_sub_cancel_left]; exact a,
    fun c => by rw [e c, List.set_append_right _ _ (Nat.le_add_right _ _), Nat.add_sub_cancel_left]⟩⟩
section
variable {P : Program} {w w' : World} {I J : Gh} {L M : List Ch} {c d : Ch} {b b' : Nat} {o o' : Obj} {E : TypeId} {cs xs ys news : List Value} {v u : Value} {n m k sz : Nat} {p : Addr} {kv : List (Int × Value)} {j : Int}
variable {a : Act} {K : Act → World → Prop} {Q : Exit → Act → World → Prop} {dst : Option Tmp} {x y z : Operand} {t ty : TypeId} {pos : String} {af : Array Edge} {gd : Option (Nat × Bool)}

theorem Sat.map0 (h : Sat w I (MapI m kv :: L)) : ∃ es clock, w.heap[m]? = some (.map es clock) ∧ Sat w I (Blk m (.map es clock) :: L) ∧ es.toList.map (fun e => (e.key, e.val)) = kv.map (fun p => (Value.int .i64 p.1, p.2)) ∧
    (kv.map Prod.fst).Nodup ∧ (es.toList.map (·.born)).Nodup ∧ ∀ e ∈ es.toList, e.born < clock := by
  obtain ⟨es, h⟩ := Sat.ex_head h
  obtain ⟨clock, h⟩ := Sat.ex_head h
  have h2 : Sat w I ((fun f => (es.toList.map (fun e => (e.key, e.val)) = kv.map (fun p => (Value.int .i64 p.1, p.2)) ∧ (kv.map Prod.fst).Nodup ∧ (es.toList.map (·.born)).Nodup ∧ ∀ e ∈ es.toList, e.born < clock) ∧ Blk m (.map es clock) f) :: L) :=
    h.head fun f hf => ⟨hf.2, hf.1⟩
  obtain ⟨hp, h3⟩ := Sat.and_head h2
  exact ⟨es, clock, h3.blk0, h3, hp⟩
theorem Sat.mapNodup {rep : Ch → List Ch} (hS : Sat w I L) [hi : HasMap L m kv rep] : (kv.map Prod.fst).Nodup := by
  obtain ⟨i, hi, _⟩ := hi.has
  obtain ⟨_, _, _, _, _, h, _⟩ := (hS.pull i hi).map0
  exact h
theorem checkKey_int (q : Bool) (n : Nat) {kt : TypeId} {kd ki : IntKind} (hk : P.underlying kt = some (.int kd)) : (Instr.checkKey q (n + 1) kt (.int ki j)).run P w = .ok () w := by
  simp [Instr.checkKey, run_underlying hk]
theorem run_getMap {es : Array MapEntry} {clock : Nat} (h : w.heap[m]? = some (.map es clock)) : (getObj m).run P w = .ok (.map es clock) w := by
  simp [getObj, Sem.run, h]
theorem run_findKey {es : Array MapEntry} {kt : TypeId} {kd : IntKind} (hk : P.underlying kt = some (.int kd)) (he : es.toList.map (fun e => (e.key, e.val)) = kv.map (fun p => (Value.int .i64 p.1, p.2))) :
    (Instr.findKey kt (.int .i64 j) es.toList).run P w = .ok (match kv.findIdx? (fun p => p.1 == j) with | some i => (kvGet kv j).map fun v => (i, v) | none => none) w := by
  have := findNow_int kd j es.toList kv 0 he
  simp only [Nat.zero_add] at this
  simp only [Instr.findKey, Sem.run_bind, run_underlying hk, Result.andThen_ok, this, Sem.run_pure]
/-- 'm[k]': the value, or the zero value. -/
theorem ex_lookup {kt et : TypeId} {zv : Value} {rep : Ch → List Ch} {kd : IntKind} (hx : a.eval x = .map (some m)) (hy : a.eval y = .int .i64 j) (hu : P.underlying t = some (.map kt et)) (hk : P.underlying kt = some (.int kd))
    (hS : Sat w I L) [hi : HasMap L m kv rep] (hz : ∀ w : World, (zeroValue et).run P w = .ok zv w) : Ex P a ⟨dst, .lookup t x y false, ty, pos, af, gd⟩ w ((kvGet kv j).getD zv) := by
  obtain ⟨i, hi, _⟩ := hi.has
  obtain ⟨es, clock, hh, _, he, _⟩ := (hS.pull i hi).map0
  have hf := run_findKey (P := P) (w := w) (j := j) hk he
  have hidx := kvGet_idx j kv
  unfold Ex execOp
  simp only [hx, hy, Instr.lookup, Sem.run_bind, run_underlying hu, Result.andThen_ok, run_getMap hh, Sem.run_pure, checkKey_int (P := P) es.isEmpty 9999 hk, hf]
  cases hq : kv.findIdx? (fun p => p.1 == j) with
  | none =>
    rw [hq] at hidx
    have : kvGet kv j = none := by cases hg : kvGet kv j <;> simp [hg] at hidx ⊢
    simp [this, hz]
  | some q =>
    rw [hq] at hidx
    obtain ⟨v, hv⟩ := Option.isSome_iff_exists.1 hidx.symm
    simp [hv]
theorem ex_lookupOk {kt et : TypeId} {zv : Value} {rep : Ch → List Ch} {kd : IntKind} (hx : a.eval x = .map (some m)) (hy : a.eval y = .int .i64 j) (hu : P.underlying t = some (.map kt et)) (hk : P.underlying kt = some (.int kd))
    (hS : Sat w I L) [hi : HasMap L m kv rep] (hz : ∀ w : World, (zeroValue et).run P w = .ok zv w) : Ex P a ⟨dst, .lookup t x y true, ty, pos, af, gd⟩ w (.tuple #[(kvGet kv j).getD zv, .bool (kvGet kv j).isSome]) := by
  obtain ⟨i, hi, _⟩ := hi.has
  obtain ⟨es, clock, hh, _, he, _⟩ := (hS.pull i hi).map0
  have hf := run_findKey (P := P) (w := w) (j := j) hk he
  have hidx := kvGet_idx j kv
  unfold Ex execOp
  simp only [hx, hy, Instr.lookup, Sem.run_bind, run_underlying hu, Result.andThen_ok, run_getMap hh, Sem.run_pure, checkKey_int (P := P) es.isEmpty 9999 hk, hf]
  cases hq : kv.findIdx? (fun p => p.1 == j) with
  | none =>
    rw [hq] at hidx
    have : kvGet kv j = none := by cases hg : kvGet kv j <;> simp [hg] at hidx ⊢
    simp [this, hz]
  | some q =>
    rw [hq] at hidx
    obtain ⟨v, hv⟩ := Option.isSome_iff_exists.1 hidx.symm
    simp [hv]
theorem wp_makeMap (hS : Sat w I L) (h : ∀ m w', Sat w' I (MapI m [] :: L) → K (a.put dst (.map (some m))) w') : Oper.wp P ⟨dst, .makeMap t none, ty, pos, af, gd⟩ a w K Q := by
  unfold Oper.wp execOp
  simp only [Instr.makeMap, Option.map_none, Sem.run_bind, Sem.run_pure, Result.andThen_ok, run_newObj]
  refine h _ _ ((hS.alloc (.map #[] 0)).head fun f hf => ⟨#[], 0, hf, rfl, by simp, by simp, fun e he => by cases he⟩)
theorem Sat.mapSet {rep : Ch → List Ch} {es es' : Array MapEntry} {clock clock' : Nat} {kv' : List (Int × Value)} {i : Nat} (hi : L[i]? = some (MapI m kv)) (e : ∀ c, rep c = L.set i c) (hb : Sat w I (Blk m (.map es clock) :: L.eraseIdx i))
    (h1 : es'.toList.map (fun e => (e.key, e.val)) = kv'.map (fun p => (Value.int .i64 p.1, p.2))) (h2 : (kv'.map Prod.fst).Nodup) (h3 : (es'.toList.map (·.born)).Nodup) (h4 : ∀ e ∈ es'.toList, e.born < clock') :
    Sat { w with heap := w.heap.setIfInBounds m (.map es' clock') } I (rep (MapI m kv')) := by
  rw [e]
  refine Sat.push i hi ?_
  have hlt : m < w.heap.size := (Array.getElem?_eq_some_iff.1 hb.blk0).1
  refine (hb.write (w' := { w with heap := w.heap.setIfInBounds m (.map es' clock') }) (o' := .map es' clock') (by simp [hlt]) (fun k hk => by simp [Array.getElem?_setIfInBounds_ne (Ne.symm hk)]) rfl rfl rfl).head fun f hf => ⟨es', clock', hf, h1, h2, h3, h4⟩
theorem run_setMap {es es' : Array MapEntry} {clock clock' : Nat} (h : w.heap[m]? = some (.map es clock)) : (setObj m (.map es' clock')).run P w = .ok () { w with heap := w.heap.setIfInBounds m (.map es' clock') } := by
  simp [setObj, Sem.run, h]
theorem map_modify {α β : Type _} (f : α → β) (g : α → α) (g' : β → β) (h : ∀ x, f (g x) = g' (f x)) : ∀ (l : List α) (i : Nat), (l.modify i g).map f = (l.map f).modify i g'
  | [], i => by simp
  | x :: l, 0 => by simp [h]
  | x :: l, i + 1 => by simp [map_modify f g g' h l i]
theorem map_eraseIdx {α β : Type _} (f : α → β) : ∀ (l : List α) (i : Nat), (l.eraseIdx i).map f = (l.map f).eraseIdx i
  | [], i => by simp
  | x :: l, 0 => by simp
  | x :: l, i + 1 => by simp [map_eraseIdx f l i]
/-- 'm[k] = v' -/
theorem wp_mapUpdate {kt et : TypeId} {rep : Ch → List Ch} {kd : IntKind} (hx : a.eval x = .map (some m)) (hy : a.eval y = .int .i64 j) (hv : a.eval z = v) (hu : P.underlying t = some (.map kt et)) (hk : P.underlying kt = some (.int kd))
    (hS : Sat w I L) [hi : HasMap L m kv rep] (h : ∀ w', Sat w' I (rep (MapI m (kvSet kv j v))) → K (a.put dst undef) w') : Oper.wp P ⟨dst, .mapUpdate t x y z, ty, pos, af, gd⟩ a w K Q := by
  obtain ⟨i, hi, e⟩ := hi.has
  obtain ⟨es, clock, hh, hb, he, hn, hbn, hlt⟩ := (hS.pull i hi).map0
  have hf := run_findKey (P := P) (w := w) (j := j) hk he
  have hidx := kvGet_idx j kv
  have hlen : es.toList.length = kv.length := by have := congrArg List.length he; simpa using this
  unfold Oper.wp execOp
  simp only [hx, hy, hv, Instr.mapUpdate, Sem.run_bind, run_underlying hu, Result.andThen_ok, run_getMap hh, checkKey_int (P := P) false 9999 hk, hf]
  cases hq : kv.findIdx? (fun p => p.1 == j) with
  | none =>
    have e2 := kvSet_none j v kv hq
    have hnot : j ∉ kv.map Prod.fst := by
      rw [hq] at hidx
      exact kvGet_none.1 (by cases hg : kvGet kv j <;> simp [hg] at hidx ⊢)
    simp only [run_setMap hh, Result.andThen_ok, Sem.run_pure]
    refine h _ (Sat.mapSet hi e hb ?_ ?_ ?_ ?_)
    · rw [e2]; simp [he]
    · rw [kvSet_keys, if_neg hnot]
      exact List.nodup_append.2 ⟨hn, by simp, by simp; intro x y hxy e; subst e; exact hnot (List.mem_map.2 ⟨_, hxy, rfl⟩)⟩
    · simp only [Array.toList_push, List.map_append, List.map_cons, List.map_nil]
      refine List.nodup_append.2 ⟨hbn, by simp, ?_⟩
      intro x hx1 y hy1
      simp at hy1; subst hy1
      obtain ⟨en, hen, rfl⟩ := List.mem_map.1 hx1
      exact Nat.ne_of_lt (hlt en hen)
    · intro en hen
      simp at hen
      rcases hen with hen | rfl
      · exact Nat.lt_succ_of_lt (hlt en (by simpa using hen))
      · exact Nat.lt_succ_self _
  | some q =>
    obtain ⟨e2, e3, e4⟩ := kvSet_some j v kv q hq
    rw [hq] at hidx
    obtain ⟨u, hu'⟩ := Option.isSome_iff_exists.1 hidx.symm
    have hkey : ((es[q]?).map (·.key)) = some (.int .i64 j) := by
      have h1 := congrArg (fun l => (l[q]?).map Prod.fst) he
      simp only [List.getElem?_map, Option.map_map] at h1
      rw [show es[q]? = es.toList[q]? from by simp]
      have : (Option.map (Prod.fst ∘ fun p : Int × Value => (Value.int .i64 p.1, p.2)) kv[q]?) = some (.int .i64 j) := by
        cases hkq : kv[q]? with
        | none => rw [hkq] at e3; simp at e3
        | some pp => rw [hkq] at e3; simp at e3; simp [e3]
      rw [this] at h1
      exact h1
    have hstay : (Instr.keyThatStays (((es[q]?).map (·.key)).getD (.int .i64 j)) (.int .i64 j)).run P w = .ok (.int .i64 j) w := by
      rw [hkey]
      simp [Instr.keyThatStays, Instr.sameBits]
    simp only [hu', Option.map_some, Sem.run_bind, hstay, Result.andThen_ok, run_setMap hh, Sem.run_pure]
    refine h _ (Sat.mapSet hi e hb ?_ ?_ ?_ ?_)
    · rw [e2, Array.toList_modify, map_modify (fun e : MapEntry => (e.key, e.val)) _ (fun _ => (.int .i64 j, v)) (fun _ => rfl), he]
      apply List.ext_getElem?
      intro r
      simp only [List.getElem?_modify, List.getElem?_map]
      by_cases hr : q = r
      · subst hr
        cases hkq : kv[q]? with
        | none => simp
        | some pp => rw [hkq] at e3; simp at e3; simp [e3]
      · simp [hr]
    · rw [kvSet_keys, if_pos (Classical.byContradiction fun hc => by rw [kvGet_none.2 hc] at hu'; cases hu')]; exact hn
    · rw [Array.toList_modify, map_modify (fun e : MapEntry => e.born) (fun e => { e with key := .int .i64 j, val := v }) id (fun _ => rfl)]
      rw [show (es.toList.map (·.born)).modify q id = es.toList.map (·.born) from by simp]
      exact hbn
    · intro en hen
      rw [Array.toList_modify] at hen
      have : en.born ∈ (es.toList.modify q fun e => { e with key := .int .i64 j, val := v }).map (·.born) := List.mem_map.2 ⟨en, hen, rfl⟩
      rw [map_modify (fun e : MapEntry => e.born) (fun e => { e with key := .int .i64 j, val := v }) id (fun _ => rfl), show (es.toList.map (·.born)).modify q id = es.toList.map (·.born) from by simp] at this
      obtain ⟨e0, he0, e1⟩ := List.mem_map.1 this
      rw [← e1]; exact hlt e0 he0
/-- 'delete(m, k)' -/
theorem wp_delete {kt et : TypeId} {rep : Ch → List Ch} {kd : IntKind} {at_ : TypeId} (hx : a.eval x = .map (some m)) (hy : a.eval y = .int .i64 j) (hu : P.underlying t = some (.map kt et)) (hk : P.underlying kt = some (.int kd))
    (hS : Sat w I L) [hi : HasMap L m kv rep] (h : ∀ w', Sat w' I (rep (MapI m (kvDel kv j))) → K (a.put dst (.tuple #[])) w') : Oper.wp P ⟨dst, .call ⟨.builtin .delete, #[x, y], #[t, at_]⟩, ty, pos, af, gd⟩ a w K Q := by
  obtain ⟨i, hi, e⟩ := hi.has
  obtain ⟨es, clock, hh, hb, he, hn, hbn, hlt⟩ := (hS.pull i hi).map0
  have hf := run_findKey (P := P) (w := w) (j := j) hk he
  have hidx := kvGet_idx j kv
  have hn' : ((kvDel kv j).map Prod.fst).Nodup := hn.sublist (kvDel_sub kv j)
  unfold Oper.wp
  simp only [BigFrame.execOp_builtin, BigFrame.builtin_delete, List.map_toArray, List.map_cons, List.map_nil, hx, hy, Sem.run_bind]
  cases hq : kv.findIdx? (fun p => p.1 == j) with
  | none =>
    have e2 := kvDel_none j kv hq
    rw [hq] at hf
    have hr : (Builtin.delete_ #[t, at_] ty #[.map (some m), .int .i64 j]).run P w = .ok (.tuple #[]) { w with heap := w.heap.setIfInBounds m (.map es clock) } := by
      simp [Builtin.delete_, run_underlying hu, run_getMap hh, checkKey_int (P := P) es.isEmpty 9999 hk, hf, run_setMap hh]
    rw [hr]
    exact h _ (Sat.mapSet hi e hb (by rw [e2]; exact he) hn' hbn hlt)
  | some q =>
    have e2 := kvDel_some j kv q hq
    rw [hq] at hf hidx
    obtain ⟨u, hu'⟩ := Option.isSome_iff_exists.1 hidx.symm
    rw [hu'] at hf
    have hr : (Builtin.delete_ #[t, at_] ty #[.map (some m), .int .i64 j]).run P w = .ok (.tuple #[]) { w with heap := w.heap.setIfInBounds m (.map (es.eraseIdxIfInBounds q) clock) } := by
      simp [Builtin.delete_, run_underlying hu, run_getMap hh, checkKey_int (P := P) es.isEmpty 9999 hk, hf, run_setMap hh]
    rw [hr]
    have et : (es.eraseIdxIfInBounds q).toList = es.toList.eraseIdx q := by
      unfold Array.eraseIdxIfInBounds
      split
      · simp
      · rename_i hge
        rw [List.eraseIdx_of_length_le (by simpa using hge)]
    refine h _ (Sat.mapSet hi e hb ?_ hn' ?_ ?_)
    · rw [et, e2, map_eraseIdx, he, map_eraseIdx]
    · rw [et, map_eraseIdx]; exact hbn.sublist (List.eraseIdx_sublist _ _)
    · intro en hen
      rw [et] at hen
      exact hlt en (List.mem_of_mem_eraseIdx hen)
end
end Go.SL

/- A range over a function, over 'Sat': the loop's record and its block of deferred calls are chunks. -/
set_option linter.unusedVariables false
set_option linter.unusedSimpArgs false
namespace Go.SL
open Go.RowKit

section
variable {P : Program} {w w' : World} {I J : Gh} {L M : List Ch} {c d : Ch} {b b' : Nat} {o o' : Obj} {E : TypeId} {cs xs ys news : List Value} {v u : Value} {n m k sz : Nat} {p : Addr}
variable {a : Act} {K : Act → World → Prop} {Q : Exit → Act → World → Prop} {dst : Option Tmp} {x y z : Operand} {t ty : TypeId} {pos : String} {af : Array Edge} {gd : Option (Nat × Bool)}
variable {ops : Array Oper} {rest : List Oper} {l l' : List Value} {ds : List Deferred} {q : Oper} {e j : Nat}

theorem Sat.putBlk (h : Sat w I (Blk b o :: L)) : Sat (w.putObj b o') I (Blk b o' :: L) := by
  have hb := (Array.getElem?_eq_some_iff.1 h.blk0).1
  exact h.write (World.putObj_heap_same hb) (fun k hk => World.putObj_heap_other hk) rfl rfl rfl

def noDefer (o : Oper) : Bool := match o.op with | .defer _ => false | _ => true
theorem oper_in {o : Oper} (hd : noDefer o = true) (h : o.wp P a w K Q) : o.wpIn (Fence.wide.inRound j) n P a w K Q := by
  refine ⟨fun _ _ => trivial, ?_⟩
  rw [Oper.semAt_eq _ _ _ (fun c hc => by simp [noDefer, hc] at hd)]
  unfold Oper.wp at h
  unfold Oper.upon at h
  unfold Oper.uponIn
  split at h
  · rename_i e; simpa [e] using h
  · rename_i e; simpa [e] using h
  · rename_i e; simpa [e] using h
  · rename_i e; simp only [e]; exact ⟨(fun h => by cases h), callsIn_wide.2 h⟩
  · rename_i f args w1 e
    simp only [e]
    refine ⟨(fun h => by cases h), ?_⟩
    intro c cs _
    obtain ⟨v, w', r, s⟩ := h c cs
    exact ⟨v, w', r, stepsIn_wide.2 s⟩
  · rename_i e; simpa [e] using h
  · exact h.elim
theorem list_in (hq : ∀ a w, ¬ Q .outgrown a w) : ∀ (ol : List Oper) (a : Act) (w : World), ol.all noDefer = true → wpList P ops Q ol a w → wpListIn (Fence.wide.inRound j) n P ops Q ol a w
  | [], a, w, _, h => h
  | o :: r, a, w, hd, h => by
    simp only [List.all_cons, Bool.and_eq_true] at hd
    unfold wpList at h
    unfold wpListIn
    split
    · rename_i hw
      rw [if_pos hw] at h
      rcases h with h | ⟨_, a1, w1, h⟩
      · refine oper_in hd.1 ?_
        exact Oper.wp_mono (fun a w h => list_in hq r a w hd.2 h) h
      · exact (hq _ _ h).elim
    · rename_i hw
      rw [if_neg hw] at h
      exact ⟨fun _ _ => trivial, list_in hq r _ w hd.2 h⟩
theorem wi_region {id : Nat} {ol : List Oper} (hd : ol.all noDefer = true) (hq : ∀ a w, ¬ Q .outgrown a w) (h0 : WL P ol.toArray Q ol a w) : (Code.region id ol.toArray false).wpIn (Fence.wide.inRound j) n P Q a w :=
  wpIn_region_lit (list_in hq ol a w hd h0.ok)

/-! the region in which the iterator calls yield: walked at the wide fence -/
theorem wp_region_F {id : Nat} {ol : List Oper} (h : wpListIn Fence.wide 10 P ol.toArray Q ol a w) : (Code.region id ol.toArray false).wp P Q a w := (wpIn_wide (n := 10)).1 (wpIn_region_lit h)
theorem wf_of (hw : Region.wanted q (yielded ops a.tmps) = true) (h : q.wpIn Fence.wide 10 P a w (wpListIn Fence.wide 10 P ops Q rest) Q) : wpListIn Fence.wide 10 P ops Q (q :: rest) a w := by
  unfold wpListIn; rw [if_pos hw]; exact h
theorem wf_val (hw : Region.wanted q (yielded ops l.toArray) = true) (hd : q.dst = some e) (hx : Ex P ⟨l.toArray, ds⟩ q w v) (hl : lset l e v = l')
    (h : wpListIn Fence.wide 10 P ops Q rest ⟨l'.toArray, ds⟩ w) : wpListIn Fence.wide 10 P ops Q (q :: rest) ⟨l.toArray, ds⟩ w := by
  refine wf_of hw ⟨fun _ _ => trivial, ?_⟩
  rw [show Oper.semAt Fence.wide.round (Act.eval ⟨l.toArray, ds⟩) q = execOp (Act.eval ⟨l.toArray, ds⟩) q from rfl]
  rw [show (execOp (Act.eval ⟨l.toArray, ds⟩) q).run P w = .ok (.value v) w from hx]
  show wpListIn Fence.wide 10 P ops Q rest (Act.put _ q.dst v) w
  rw [hd, put_lit, hl]
  exact h
theorem wf_put {v : Value} (hl : lset l e v = l') (h : wpListIn Fence.wide 10 P ops Q rest ⟨l'.toArray, ds⟩ w) : wpListIn Fence.wide 10 P ops Q rest (Act.put ⟨l.toArray, ds⟩ (some e) v) w := by
  rw [put_lit, hl]; exact h

/-- One round's way out, over 'Sat'. -/
def rndPost (I : Gh) (l : Nat) (rec : Loop) (R : Option Code → Gh → List Ch → Prop) : Exit → Act → World → Prop
  | .normal, _, w => ∃ J M, Sat w J (Blk l (.loop { rec with state := .busy }) :: M) ∧ R none J M
  | .ret, _, w => ∃ J M, Sat w J (Blk l (.loop { rec with state := .busy }) :: M) ∧ R (some .ret) J M
  | .exit id, _, w => ∃ J M, Sat w J (Blk l (.loop { rec with state := .busy }) :: M) ∧ R (some (.exit id)) J M
  | .goto t, _, w => ∃ J M, Sat w J (Blk l (.loop { rec with state := .busy }) :: M) ∧ R (some (.goto t)) J M
  | _, _, _ => False
/-- A call of yield: a round. Behind it: the record ready for another, or done, a jump pending. -/
theorem wf_yield {i : Nat} {args : List Operand} {vs : List Value} {rec : Loop} {ats : Array TypeId} (hx : a.eval x = .func (.yield i) #[] #[]) (hv : EvL a args vs) (hS : Sat w I (Blk i (.loop rec) :: L)) (hr : rec.state = .ready) (hpd : rec.pending = none) (hps : rec.params.size = vs.length)
    (R : Option Code → Gh → List Ch → Prop)
    (ha : rec.assign.wpIn (Fence.wide.inRound i) 9 P (Exit.then (fun a1 w1 => ∃ M, Sat w1 I (Blk i (.loop rec) :: M) ∧ ∀ w2, Sat w2 I (Blk i (.loop { rec with state := .busy }) :: M) →
      rec.body.wpIn (Fence.wide.inRound i) 9 P (rndPost I i rec R) a1 w2) (fun _ _ _ => False)) ⟨(rec.params.zip vs.toArray).foldl (fun tmps (t, a) => tmps.setIfInBounds t a) rec.tmps, []⟩ w)
    (hn : ∀ J M w', R none J M → Sat w' J (Blk i (.loop rec) :: M) → K (a.put dst (.bool true)) w')
    (hj : ∀ c J M w', R (some c) J M → Sat w' J (Blk i (.loop { rec with state := .done, pending := some c }) :: M) → K (a.put dst (.bool false)) w') :
    Oper.wpIn Fence.wide 10 P ⟨dst, .call ⟨.value x, args.toArray, ats⟩, ty, pos, af, gd⟩ a w K Q := by
  refine ⟨fun _ _ => trivial, ?_⟩
  have hy := run_yield (P := P) (args := vs.toArray) hS.blk0 (by simp [hps])
  have hrun : (execOp a.eval ⟨dst, .call ⟨.value x, args.toArray, ats⟩, ty, pos, af, gd⟩).run P w = .ok (.round i rec.fn ((rec.params.zip vs.toArray).foldl (fun tmps (t, a) => tmps.setIfInBounds t a) rec.tmps) rec.assign rec.body) w := by
    simp [execOp, resolve, hx, Deferred.ofValue, invoke, callFunc, hv.eq, hy]
  rw [show Oper.semAt Fence.wide.round a.eval ⟨dst, .call ⟨.value x, args.toArray, ats⟩, ty, pos, af, gd⟩ = execOp a.eval ⟨dst, .call ⟨.value x, args.toArray, ats⟩, ty, pos, af, gd⟩ from rfl, hrun]
  rw [Oper.uponIn_round]
  refine ⟨(fun h => by cases h), roundIn_of_wpIn trivial ?_⟩
  refine wpIn_mono ha ?_
  intro e1 a1 w1 h1
  cases e1 with
  | normal =>
    obtain ⟨M, hM, hB⟩ := h1
    refine ⟨_, run_beginRound hM.blk0 hr, wpIn_mono (hB _ hM.putBlk) ?_⟩
    intro e2 a2 w2 h2
    cases e2 with
    | normal =>
      obtain ⟨J, M', hS2, hR⟩ := h2
      refine ⟨_, _, run_endRound none hS2.blk0, ?_⟩
      refine hn J M' _ hR ?_
      have := hS2.putBlk (o' := .loop { { rec with state := .busy } with state := if (none : Option Code).isNone then .ready else .done, pending := none })
      cases rec; simp_all
    | ret =>
      obtain ⟨J, M', hS2, hR⟩ := h2
      exact ⟨_, _, run_endRound (some .ret) hS2.blk0, hj _ J M' _ hR (hS2.putBlk)⟩
    | exit id =>
      obtain ⟨J, M', hS2, hR⟩ := h2
      exact ⟨_, _, run_endRound (some (.exit id)) hS2.blk0, hj _ J M' _ hR (hS2.putBlk)⟩
    | goto t =>
      obtain ⟨J, M', hS2, hR⟩ := h2
      exact ⟨_, _, run_endRound (some (.goto t)) hS2.blk0, hj _ J M' _ hR (hS2.putBlk)⟩
    | panic _ => exact h2.elim
    | outgrown => exact h2.elim
  | _ => exact h1.elim

/-- The loop: the iterator's call, over the record. -/
theorem wp_rangeFuncS {g : Operand} {ps : Array Tmp} {assign body : Code} {gf : Nat} {lb : List Value} (hg : a.eval g = .func (.func gf) #[] lb.toArray) (hcb : callB P gf = true) (hS : Sat w I L)
    (h : ∀ fn i D w1, Sat w1 I (Blk i (.loop { state := .ready, pending := none, fn, tmps := a.tmps, params := ps, assign, body, defers := D }) :: Blk D (.deferred (some [])) :: L) →
      Calls P gf ((.func (.yield i) #[] #[] :: lb).toArray) w1 fun e w2 => (∃ v, e = .returned v) ∧ ∃ st pe J M, st ≠ .busy ∧ Sat w2 J (Blk i (.loop { state := st, pending := pe, fn, tmps := a.tmps, params := ps, assign, body, defers := D }) :: M) ∧
        ∀ w3, Sat w3 J M → match pe with
          | none => Q .normal { a with defers := ⟨.collected D, #[]⟩ :: a.defers } w3
          | some c => c.wp P Q { a with defers := ⟨.collected D, #[]⟩ :: a.defers } w3) :
    (Code.rangeFunc g ps assign body).wp P Q a w := by
  refine (wpIn_wide (n := 20)).1 (wpIn_rangeFunc ?_)
  intro fn _
  unfold callB at hcb
  split at hcb
  case h_2 => cases hcb
  rename_i f hf
  simp only [Bool.and_eq_true, bne_iff_ne] at hcb
  refine ⟨w.heap.size + 1, [⟨.collected w.heap.size, #[]⟩], (w.alloc (.deferred (some []))).alloc (.loop { state := .ready, pending := none, fn, tmps := a.tmps, params := ps, assign, body, defers := w.heap.size }), ⟨.fn (.func gf) lb.toArray, #[.func (.yield (w.heap.size + 1)) #[] #[]]⟩, (w.alloc (.deferred (some []))).alloc (.loop { state := .ready, pending := none, fn, tmps := a.tmps, params := ps, assign, body, defers := w.heap.size }), gf, (.func (.yield (w.heap.size + 1)) #[] #[] :: lb).toArray, (w.alloc (.deferred (some []))).alloc (.loop { state := .ready, pending := none, fn, tmps := a.tmps, params := ps, assign, body, defers := w.heap.size }), run_enterLoop_outer _ _ _ _ _, ?_, fun _ _ => trivial, ?_, (fun h => by cases h), ?_⟩
  · simp only [resolve, hg]
    simp [go_sem]
  · simp [invoke, callFunc, hf, hcb.2, Option.isSome_iff_ne_none.1 hcb.1, go_sem]
  · refine callsIn_wide.2 ?_
    have hS1 := ((hS.alloc (.deferred (some []))).alloc (.loop { state := .ready, pending := none, fn, tmps := a.tmps, params := ps, assign, body, defers := w.heap.size }))
    rw [World.size_alloc] at hS1
    refine (h fn _ _ _ hS1).mono ?_
    rintro e w2 ⟨⟨v, rfl⟩, st, pe, J, M, hst, hS2, hK⟩
    refine ⟨pe, _, run_endLoop hS2.blk0 hst, ?_⟩
    have := hK _ (hS2.putBlk (o' := .loop { state := .exhausted, pending := pe, fn, tmps := a.tmps, params := ps, assign, body, defers := w.heap.size })).drop
    cases pe with
    | none => exact this
    | some c => exact wpIn_wide.2 this
def noPan (Q : Exit → Act → World → Prop) : Exit → Act → World → Prop
  | .panic _, _, _ => False
  | e, a, w => Q e a w
theorem calls_marks {f : FuncId} {fn : Func} {c : Code} {args : Array Value} {R : Ending → World → Prop} (hf : P.funcs[f]? = some fn) (hb : fn.body = some c)
    (h : c.wp P (noPan (bodyPostM Fence.wide 9 P fn R)) ⟨args ++ Array.replicate (fn.ntmps - args.size) undef, []⟩ w) : Calls P f args w R :=
  callsIn_wide.1 (callsIn_of_wp_marks (F := Fence.wide) (n := 9) hf hb trivial (wpIn_wide.2 (Code.wp_mono (fun e a w h => by cases e <;> first | exact h | exact h.elim) h)))
/-- The end of a function that holds such a loop: its mark is taken up. -/
theorem endM {fn : Func} {R : Ending → World → Prop} {l : List Value} {vs : List Value} {rs : List ResultVar} {e : Exit} {D : Nat} (he : e = .ret ∨ e = .normal) (hf : fn.results = rs.toArray)
    (hS : Sat w I (Blk D (.deferred (some [])) :: L)) (h : ∀ w', Sat w' I L → ResL P w' l rs vs) (hR : ∀ w', Sat w' I L → R (.returned (if h : vs.toArray.size = 1 then vs.toArray[0] else .tuple vs.toArray)) w') : noPan (bodyPostM Fence.wide 9 P fn R) e ⟨l.toArray, [⟨.collected D, #[]⟩]⟩ w := by
  have hS' := (hS.putBlk (o' := .deferred none)).drop
  have key : LeavesInM Fence.wide 9 P fn l.toArray R [⟨.collected D, #[]⟩] .returning w :=
    ⟨(fun h => by cases h), .inl ⟨D, _, rfl, run_takeDeferred hS.blk0, _, res_run hf (h _ hS'), hR _ hS'⟩⟩
  rcases he with rfl | rfl <;> exact key
end
end Go.SL

/- Further operations: stores into elements, slices of slices, copies, equality of arrays of bytes, bits. -/
set_option linter.unusedVariables false
set_option linter.unusedSimpArgs false
namespace Go.SL
open Go.RowKit

theorem sub_all {xs : List Value} {n : Nat} (h : xs.length = n) : sub xs 0 n = xs := by simp [sub, ← h]
theorem sub_bytes {bs : List UInt8} {n : Nat} (h : bs.length = n) : sub (bs.map byteV) 0 n = bs.map byteV := sub_all (by simpa using h)
theorem splice_length {cs vs : List Value} {k : Nat} (h : k + vs.length ≤ cs.length) : (splice cs k vs).length = cs.length := by
  simp [splice]; omega
theorem splice_append {cs ds vs : List Value} {k : Nat} (h : k + vs.length ≤ cs.length) : splice (cs ++ ds) k vs = splice cs k vs ++ ds := by
  simp only [splice]
  rw [List.take_append_of_le_length (by omega), List.drop_append_of_le_length (by omega)]
  simp
theorem Oc.splice {cs vs : List Value} {k : Nat} (h : Oc cs) (hv : Oc vs) : Oc (splice cs k vs) := by
  intro u hu
  simp only [SL.splice, List.mem_append] at hu
  rcases hu with (hu | hu) | hu
  · exact h u (List.mem_of_mem_take hu)
  · exact hv u hu
  · exact h u (List.mem_of_mem_drop hu)
section
variable {P : Program} {w w' : World} {I J : Gh} {L M : List Ch} {c d : Ch} {b b' : Nat} {o o' : Obj} {E : TypeId} {cs xs ys news : List Value} {v u : Value} {n m k sz : Nat} {p : Addr}
variable {a : Act} {K : Act → World → Prop} {Q : Exit → Act → World → Prop} {dst : Option Tmp} {x y z : Operand} {t ty : TypeId} {pos : String} {af : Array Edge} {gd : Option (Nat × Bool)}

/-- The row, opened: its block. -/
theorem Sat.rowBlk {rep : Ch → List Ch} (hS : Sat w I L) [hi : HasRow L v E sz n xs rep] (h0 : 0 < n) : ∃ g cap rest, v = .slice (some ⟨g, 0, none⟩) n cap ∧ n ≤ cap ∧ xs.length = n * sz ∧ Oc xs ∧ rest.length = (cap - n) * sz ∧ w.heap[g]? = some (.cells (xs ++ rest).toArray E (0, 0)) := by
  obtain ⟨i, hi, e⟩ := hi.has
  obtain ⟨⟨f, ⟨gf, m', dj, ef, ⟨⟨hl0, ho0⟩, hc0⟩, hL⟩, hf⟩, r1, r2, r3, r4⟩ := hS.pull i hi
  rcases hc0 with ⟨_, e2⟩ | ⟨q, cap, r0, e1, hn', hm', hr', hq⟩
  · omega
  · exact ⟨q, cap, r0, e1, hn', hl0, ho0, hr', (hf q _ (by rw [ef]; simp only [Fp.join]; rw [hq]; rfl)).1⟩
theorem Sat.setEl {rep : Ch → List Ch} {vs : List Value} (hS : Sat w I L) [hi : HasRow L v E sz n xs rep] (h0 : 0 < n) (hk : k + vs.length ≤ xs.length) (hv : Oc vs) (hval : u.cells.toList = vs) (hs : sizeB P t = some vs.length) :
    ∃ w', (storeVar t (ea v k) u).run P w = .ok () w' ∧ Sat w' I (rep (Row v E sz n (splice xs k vs))) := by
  obtain ⟨g, cap, rest, rfl, hn, hl, ho, hr, hb⟩ := hS.rowBlk (hi := hi) h0
  have h1 := run_storeVar_cells (P := P) (t := t) (v := u) (k := k) hb (by rw [hval]; exact hs) (by rw [hval, List.length_append]; omega) (by rw [hval]; exact hv)
  rw [hval, splice_append hk] at h1
  refine ⟨_, by simpa [ea, Addr.add_lit] using h1, ?_⟩
  have := hS.updRow (hi := hi) (m := n) (ys := splice xs k vs) (cur := rest) rfl hn (by rw [splice_length hk, hl]) (ho.splice hv) (by rw [List.length_append, splice_length hk, hl, hr, ← Nat.add_mul]; congr 1; omega)
  exact this
theorem wp_storeE1 {rep : Ch → List Ch} (hp : a.eval x = .pointer (some (ea v k))) (hy : a.eval y = u) (hS : Sat w I L) [hi : HasRow L v E sz n xs rep] (hs : sizeB P t = some 1) (hk : k < xs.length) (h1 : u.oneCell' = true)
    (h : ∀ w', Sat w' I (rep (Row v E sz n (xs.set k u))) → K (a.put dst undef) w') : Oper.wp P ⟨dst, .store t x y, ty, pos, af, gd⟩ a w K Q := by
  have h0 : 0 < n := by
    obtain ⟨_, hl, _⟩ := hS.rowH (hi := hi)
    rcases Nat.eq_zero_or_pos n with e | e
    · subst e; simp at hl; simp [hl] at hk
    · exact e
  obtain ⟨w', hr, hS'⟩ := hS.setEl (hi := hi) (P := P) (t := t) (u := u) (vs := [u]) h0 (show k + 1 ≤ xs.length from hk) (fun q hq => by simp at hq; subst hq; exact h1) (by rw [one_cells h1]) hs
  rw [splice_one hk] at hS'
  unfold Oper.wp execOp
  simp only [hp, hy, Instr.storeAt, Instr.sureAddr, Sem.run_bind, Sem.run_pure, Result.andThen_ok, hr]
  exact h _ hS'
theorem wp_storeEN {rep : Ch → List Ch} {vs : List Value} (hp : a.eval x = .pointer (some (ea v k))) (hy : a.eval y = .agg vs.toArray) (hS : Sat w I L) [hi : HasRow L v E sz n xs rep] (hs : sizeB P t = some vs.length) (h0 : 0 < n) (hk : k + vs.length ≤ xs.length) (h1 : Oc vs)
    (h : ∀ w', Sat w' I (rep (Row v E sz n (splice xs k vs))) → K (a.put dst undef) w') : Oper.wp P ⟨dst, .store t x y, ty, pos, af, gd⟩ a w K Q := by
  obtain ⟨w', hr, hS'⟩ := hS.setEl (hi := hi) (P := P) (t := t) (u := .agg vs.toArray) (vs := vs) h0 hk h1 (by simp [Value.cells]) hs
  unfold Oper.wp execOp
  simp only [hp, hy, Instr.storeAt, Instr.sureAddr, Sem.run_bind, Sem.run_pure, Result.andThen_ok, hr]
  exact h _ hS'
/-- A store into a block whose cells are not written out. -/
theorem wp_store1s {rep : Ch → List Ch} (hp : a.eval x = .pointer (some ⟨b, k, none⟩)) (hy : a.eval y = u) (hS : Sat w I L) [hi : HasCells L b E cs rep] (hs : sizeB P t = some 1)
    (hk : k < cs.length) (h1 : u.oneCell' = true) (h : ∀ w', Sat w' I (rep (Cells b E (cs.set k u))) → K (a.put dst undef) w') :
    Oper.wp P ⟨dst, .store t x y, ty, pos, af, gd⟩ a w K Q := by
  refine wp_store1 hp hy hS hs (Nat.ble_eq_true_of_le hk) h1 ?_
  rw [← lset_eq]
  exact h
theorem wp_storeNs {rep : Ch → List Ch} {vs : List Value} (hp : a.eval x = .pointer (some ⟨b, k, none⟩)) (hy : a.eval y = .agg vs.toArray) (hS : Sat w I L) [hi : HasCells L b E cs rep] (hs : sizeB P t = some vs.length)
    (hk : k + vs.length ≤ cs.length) (h1 : Oc vs) (h : ∀ w', Sat w' I (rep (Cells b E (splice cs k vs))) → K (a.put dst undef) w') :
    Oper.wp P ⟨dst, .store t x y, ty, pos, af, gd⟩ a w K Q := by
  refine wp_storeN hp hy hS hs (Nat.ble_eq_true_of_le hk) ?_ h
  rw [List.all_eq_true]; exact h1
/-- An element of an array that lies in an element of a slice. -/
theorem ex_iaAE {el : TypeId} {kk : IntKind} {ix : Int} (hy : a.eval x = .pointer (some (ea v k))) (hx : a.eval y = .int kk ix) (hu : arrayB P t = some (n, el)) (hs : sizeB P el = some sz) (hv : IsSl v m) (hm : 0 < m) (h0 : 0 ≤ ix) (hn : ix < n) :
    Ex P a ⟨dst, .indexAddr t x y, ty, pos, af, gd⟩ w (.pointer (some (ea v (k + ix.toNat * sz)))) := ex_indexAddrA hy hx hu hs h0 hn (ea_add hv hm rfl)

theorem fillsPair {z0 : Value} {zs vs : List Value} (hx : a.eval x = u) (hy : a.eval y = .agg vs.toArray) (h1 : u.oneCell' = true) (hl : vs.length = n) (hz : zs.length = n) :
    Fills a (fun i => [(0, 1), (1, n)][i]?) [(0, x), (1, y)] (z0 :: zs) (u :: vs) := by
  refine ⟨0, 1, u, [u], rfl, hx, by rw [one_cells h1], rfl, by simp, 1, n, _, vs, rfl, hy, by simp [Value.cells], hl, ?_, ?_⟩
  · simp [splice, hl, hz]; omega
  · simp [splice, hl, hz, Fills]; omega
theorem byteV_all (bs : List UInt8) : (bs.map byteV).all Value.oneCell' = true := by
  rw [List.all_eq_true]; intro v hv; obtain ⟨c, _, rfl⟩ := List.mem_map.1 hv; rfl
theorem byteV_Oc (bs : List UInt8) : Oc (bs.map byteV) := Oc.of_all (byteV_all bs)
instance HasTail.past {M N K' : List Ch} [h : HasTail M N] : HasTail (K' ++ M) N := ⟨let ⟨X, e⟩ := h.has; ⟨K' ++ X, by rw [e]; simp⟩⟩
/-- What a slice holds, as far as the chunks L tell (or the immutable blocks). -/
def Rds (I : Gh) (L : List Ch) (v : Value) (xs : List Value) : Prop := ∀ w X, Sat w I (X ++ L) → RdS w v xs
theorem Rds.rd [ht : HasTail M L] (h : Rds I L v xs) (hS : Sat w I M) : RdS w v xs := by
  obtain ⟨X, e⟩ := ht.has
  subst e
  exact h w X hS
theorem Rds.le {N : List Ch} [ht : HasTail N L] (h : Rds I L v xs) : Rds I N v xs := by
  obtain ⟨X, e⟩ := ht.has
  subst e
  intro w Y hS
  refine h w (Y ++ X) ?_
  rwa [List.append_assoc]
theorem Rds.row : Rds I (Row v E sz n xs :: L) v xs := fun w X hS => (hS.row (E := E) (sz := sz) (n := n) (xs := xs) X.length (by simp)).2.2.1
theorem Rds.at (i : Nat) (hi : L[i]? = some (Row v E sz n xs)) : Rds I L v xs := fun w X hS => (hS.row (E := E) (sz := sz) (n := n) (xs := xs) (X.length + i) (by rw [List.getElem?_append_right (Nat.le_add_right _ _), Nat.add_sub_cancel_left]; exact hi)).2.2.1
theorem SlI.rds (h : SlI I v n xs) : Rds I L v xs := fun w X hS => hS.rdSI h
/-- A whole block of one value. -/
theorem ldW {rep : Ch → List Ch} (hS : Sat w I L) [hi : HasCells L b E cs rep] (hk : kindB P t = some true) (hs : sizeB P t = some n) (hn : cs.length = n) : (loadVar t ⟨b, 0, none⟩).run P w = .ok (.agg cs.toArray) w := by
  have := ldN (t := t) (k := 0) (n := n) hS (hi := hi) hk hs (Nat.ble_eq_true_of_le (by omega))
  rwa [sub_all hn] at this
theorem ldNs {rep : Ch → List Ch} (hS : Sat w I L) [hi : HasCells L b E cs rep] (hk : kindB P t = some true) (hs : sizeB P t = some n) (hy : sub cs k n = ys) (hn : ys.length = n) (h0 : 0 < n) : (loadVar t ⟨b, k, none⟩).run P w = .ok (.agg ys.toArray) w := by
  have h1 : k + n ≤ cs.length := by
    rw [← hy] at hn
    simp [sub] at hn
    omega
  have := ldN (t := t) (k := k) (n := n) hS (hi := hi) hk hs (Nat.ble_eq_true_of_le h1)
  rwa [hy] at this
/-- A store over a whole block. -/
theorem wp_storeW {rep : Ch → List Ch} {vs : List Value} (hp : a.eval x = .pointer (some ⟨b, 0, none⟩)) (hy : a.eval y = .agg vs.toArray) (hS : Sat w I L) [hi : HasCells L b E cs rep] (hs : sizeB P t = some n)
    (h2 : vs.length = n) (h3 : cs.length = n) (h1 : Oc vs) (h : ∀ w', Sat w' I (rep (Cells b E vs)) → K (a.put dst undef) w') :
    Oper.wp P ⟨dst, .store t x y, ty, pos, af, gd⟩ a w K Q := by
  subst h2
  refine wp_storeNs hp hy hS hs (by omega) h1 ?_
  rw [splice_all h3]
  exact h
theorem zeroOf {zv : Value} (h : (P.info? t).bind (·.zero) = some zv) : ∀ w : World, (zeroValue t).run P w = .ok zv w := by
  intro w
  cases hi : P.info? t with
  | none => rw [hi] at h; cases h
  | some i =>
    rw [hi] at h
    simp only [Option.bind_some] at h
    simp [zeroValue, typeInfo, hi, h]
theorem Sat.cellsRow (hS : Sat w I (Cells b E xs :: L)) (hl : xs.length = n) (ho : Oc xs) (hm : n ≤ maxLen) : Sat w I (Row (.slice (some ⟨b, 0, none⟩) n n) E 1 n xs :: L) :=
  hS.head fun f hf => ⟨⟨by simp [hl], ho⟩, .inr ⟨b, n, [], rfl, Nat.le_refl _, hm, by simp, by simpa [Blk, Cells] using hf⟩⟩
theorem Sat.anti (h : Sat w J L) (hle : I.le J) : Sat w I L := by
  obtain ⟨⟨f, hf, hb⟩, him, a, t, u⟩ := h
  refine ⟨⟨f, hf, fun b o e => ⟨(hb b o e).1, ?_⟩⟩, fun b o e => him b o (hle.imm b o e), a.trans hle.os, t.trans hle.tape, u.trans hle.output⟩
  cases hi : I.imm b with
  | none => rfl
  | some o' => have := hle.imm b o' hi; rw [(hb b o e).2] at this; cases this
theorem Rds.mono (h : Rds I L v xs) (hle : I.le J) : Rds J L v xs := fun w X hS => h w X (hS.anti hle)
theorem Rds.cells : Rds I (Cells b E cs :: L) (.slice (some ⟨b, k, none⟩) n m) (cs.drop k) := by
  intro w X hS p n' c' e
  injection e with e1 _ _
  injection e1 with e1
  subst e1
  exact hS.cells (b := b) (E := E) (cs := cs) X.length (by simp) k
theorem IsSl.lit {p : Addr} {n c : Nat} (h : n ≤ c) : IsSl (.slice (some p) n c) n := ⟨_, _, rfl, h, fun e => by cases e⟩
theorem Rds.src (ht : Rds I L u news) [HasTail M L] (hS : Sat w I M) (hu : IsSl u m) (hl : news.length = m * sz) (ho : Oc news) : Src w u m sz news := ⟨hu, hl, ht.rd hS, ho⟩
/-- Freezing the chunk at a place. -/
theorem Sat.freezeAt (h : Sat w I L) (i : Nat) (hi : L[i]? = some (Row v E sz n xs)) : ∃ J, I.le J ∧ Sat w J (L.eraseIdx i) ∧ SlI J v n xs := (h.pull i hi).freezeRow
theorem ex_neqStrR {r : ByteArray} {yt : TypeId} (hx : a.eval x = .string r) (hy : a.eval y = .string r) : Ex P a ⟨dst, .binOp .neq t x y yt, ty, pos, af, gd⟩ w (.bool false) := by
  have := ex_neqStr (P := P) (dst := dst) (t := t) (ty := ty) (pos := pos) (af := af) (gd := gd) (w := w) (yt := yt) hx hy
  simpa using this
theorem ex_eqlStrR {r : ByteArray} {yt : TypeId} (hx : a.eval x = .string r) (hy : a.eval y = .string r) : Ex P a ⟨dst, .binOp .eql t x y yt, ty, pos, af, gd⟩ w (.bool true) := by
  have := ex_eqlStr (P := P) (dst := dst) (t := t) (ty := ty) (pos := pos) (af := af) (gd := gd) (w := w) (yt := yt) hx hy
  simpa using this
theorem Sat.dropAt (h : Sat w I L) (i : Nat) (hi : L[i]? = some c) : Sat w I (L.eraseIdx i) := (h.pull i hi).drop
def lsets : List Value → List Nat → List Value → List Value
  | l, t :: ts, v :: vs => lsets (lset l t v) ts vs
  | l, _, _ => l
theorem foldl_lsetsL : ∀ (ps : List Nat) (vs l : List Value), (ps.zip vs).foldl (fun tmps (x : Nat × Value) => tmps.setIfInBounds x.1 x.2) l.toArray = (lsets l ps vs).toArray
  | [], vs, l => by simp [lsets]
  | t :: ts, [], l => by simp [lsets]
  | t :: ts, v :: vs, l => by
    have := foldl_lsetsL ts vs (lset l t v)
    simp only [List.zip_cons_cons, List.foldl_cons, lsets]
    rw [← this, ← lset_eq]
    simp
theorem foldl_lsets (ps : List Nat) (vs l : List Value) : (ps.toArray.zip vs.toArray).foldl (fun tmps (x : Nat × Value) => tmps.setIfInBounds x.1 x.2) l.toArray = (lsets l ps vs).toArray := by
  rw [List.zip_toArray, ← foldl_lsetsL]
  simp
/-! arrays of bytes -/
theorem cell_byteV : (Extern.Stop.cell : UInt8 → Value) = byteV := rfl
theorem ex_eqlArr {el : TypeId} {yt : TypeId} {l r : List UInt8} (hx : a.eval x = v) (hy : a.eval y = u) (e1 : v = .agg (l.map byteV).toArray) (e2 : u = .agg (r.map byteV).toArray) (hu : arrayB P t = some (n, el)) (he : intB P el = some .u8) (hs : sizeB P el = some 1) (h1 : l.length = n) (h2 : r.length = n) (hg : P.eqGuardType P.depth t = false) :
    Ex P a ⟨dst, .binOp .eql t x y yt, ty, pos, af, gd⟩ w (.bool (l == r)) := by
  subst e1; subst e2
  unfold arrayB at hu
  split at hu
  case h_2 => cases hu
  rename_i n' el' hu'
  injection hu with hu; injection hu with e1 e2; subst e1; subst e2
  unfold intB at he
  split at he
  case h_2 => cases he
  rename_i kd' he'
  injection he with he; subst he
  have := run_eql_bytes (P := P) w t el' n' hu' he' (fun w => run_sizeOf hs w) l r h1 h2
  rw [cell_byteV] at this
  unfold Ex execOp
  simp [eqGuard, hx, hy, this, hg]
theorem rep_byte (n : Nat) : SL.rep n [.int .u8 0] = (List.replicate n (0 : UInt8)).map byteV := by
  rw [rep_one]; simp [byteV]
theorem ex_xor8 {c1 c2 : UInt8} {yt : TypeId} (hx : a.eval x = byteV c1) (hy : a.eval y = byteV c2) : Ex P a ⟨dst, .binOp .xor t x y yt, ty, pos, af, gd⟩ w (byteV (c1 ^^^ c2)) := by
  unfold Ex execOp
  have e : IntKind.u8.wrap (BitVec.ofInt IntKind.u8.bits (c1.toNat : Int) ^^^ BitVec.ofInt IntKind.u8.bits (c2.toNat : Int)).toNat = ((c1 ^^^ c2).toNat : Int) := by
    show IntKind.u8.wrap ((BitVec.ofInt 8 (c1.toNat : Int) ^^^ BitVec.ofInt 8 (c2.toNat : Int)).toNat : Int) = _
    have key : ∀ c : UInt8, BitVec.ofInt 8 (c.toNat : Int) = c.toBitVec := by
      intro c
      apply BitVec.eq_of_toNat_eq
      have := c.toNat_lt
      simp
    rw [key, key, show (c1.toBitVec ^^^ c2.toBitVec).toNat = (c1 ^^^ c2).toNat from by simp]
    have := (c1 ^^^ c2).toNat_lt
    exact IntWalk.u8_in _ (by omega)
  simp only [byteV] at hx hy
  simp [eqGuard, hx, hy, binOp, Op.intBits, byteV]
  exact e

/-! slices of slices -/
def slv (v : Value) (l h sz : Nat) : Value := match v with | .slice q _ cap => .slice (if cap = l then q else q.map (·.add (l * sz))) (h - l) (cap - l) | _ => v
theorem IsSl.slv {l h : Nat} (hv : IsSl v n) (h1 : l ≤ h) (h2 : h ≤ n) : IsSl (slv v l h sz) (h - l) := by
  obtain ⟨q, cap, rfl, hn, hq⟩ := hv.ex
  refine ⟨_, _, rfl, by omega, ?_⟩
  intro e
  have : q = none := by
    split at e
    · exact e
    · cases q <;> simp at e ⊢
  have := hq this
  omega
theorem RdS.slv {l h : Nat} (hr : RdS w v xs) (hv : IsSl v n) (h1 : l ≤ h) (h2 : h ≤ n) : RdS w (slv v l h sz) (sub xs (l * sz) ((h - l) * sz)) := by
  obtain ⟨q, cap, rfl, hn, hq⟩ := hv.ex
  intro p m c e
  simp only [SL.slv] at e
  injection e with e1 _ _
  split at e1
  · rename_i hc
    have : h - l = 0 := by omega
    rw [this]
    intro j u hu
    simp [sub] at hu
  · cases q with
    | none => cases e1
    | some q =>
      simp only [Option.map_some, Option.some.injEq] at e1
      subst e1
      exact ((hr _ _ _ rfl).drop _).take _
theorem SlI.slv {l h : Nat} (hi : SlI I v n xs) (h1 : l ≤ h) (h2 : h ≤ n) : SlI I (slv v l h sz) (h - l) (sub xs (l * sz) ((h - l) * sz)) := by
  refine ⟨hi.is.slv h1 h2, fun u hu => hi.oc u ?_, ?_⟩
  · simp only [sub] at hu; exact List.mem_of_mem_drop (List.mem_of_mem_take hu)
  obtain ⟨q, cap, rfl, hn, hq⟩ := hi.is.ex
  intro p m c e
  simp only [SL.slv] at e
  injection e with e1 _ _
  split at e1
  · rename_i hc
    have : h - l = 0 := by omega
    rw [this]
    intro j u hu
    simp [sub] at hu
  · cases q with
    | none => cases e1
    | some q =>
      simp only [Option.map_some, Option.some.injEq] at e1
      subst e1
      intro j u hu
      have hj : j < (h - l) * sz := by
        have : j < (sub xs (l * sz) ((h - l) * sz)).length := by
          rcases Nat.lt_or_ge j (sub xs (l * sz) ((h - l) * sz)).length with h | h
          · exact h
          · rw [List.getElem?_eq_none h] at hu; cases hu
        simp [sub] at this; omega
      have := hi.rd _ _ _ rfl (l * sz + j) u (by
        simp only [sub, List.getElem?_take, hj, if_true, List.getElem?_drop] at hu
        exact hu)
      rw [Addr.add_add]
      exact this
theorem run_sliceBound {k1 : IntKind} {li : Int} {yy : Nat} {code : BoundsCode} (h0 : 0 ≤ li) (h1 : li ≤ yy) : (Instr.sliceBound (.int k1 li) yy code).run P w = .ok li.toNat w := by
  simp [Instr.sliceBound, h0, h1, go_sem]
theorem ex_sliceLH {el : TypeId} {k1 k2 : IntKind} {li hi' : Int} (hx : a.eval x = v) (hy : a.eval y = .int k1 li) (hz : a.eval z = .int k2 hi') (hu : sliceB P t = some el) (hs : sizeB P el = some sz) (hv : IsSl v n) (h0 : 0 ≤ li) (h1 : li ≤ hi') (h2 : hi' ≤ n) :
    Ex P a ⟨dst, .slice t x (some y) (some z) none, ty, pos, af, gd⟩ w (slv v li.toNat hi'.toNat sz) := by
  obtain ⟨q, cap, rfl, hn, hq⟩ := hv.ex
  unfold sliceB at hu
  split at hu
  case h_2 => cases hu
  rename_i el' hu'
  injection hu with hu; subst hu
  unfold Ex execOp
  have e1 : (Instr.sliceBound (.int k2 hi') cap .sliceAcap).run P w = .ok hi'.toNat w := run_sliceBound (by omega) (by omega)
  have e2 : (Instr.sliceBound (.int k1 li) hi'.toNat .sliceB).run P w = .ok li.toNat w := run_sliceBound h0 (by omega)
  simp [Instr.sliceAt, Instr.slice, run_underlying hu', hx, hy, hz, Instr.sliceBounds, e1, e2, run_sizeOf hs, slv]
theorem ex_sliceH {el : TypeId} {k2 : IntKind} {hi' : Int} (hx : a.eval x = v) (hz : a.eval z = .int k2 hi') (hu : sliceB P t = some el) (hs : sizeB P el = some sz) (hv : IsSl v n) (h1 : 0 ≤ hi') (h2 : hi' ≤ n) :
    Ex P a ⟨dst, .slice t x none (some z) none, ty, pos, af, gd⟩ w (slv v 0 hi'.toNat sz) := by
  obtain ⟨q, cap, rfl, hn, hq⟩ := hv.ex
  unfold sliceB at hu
  split at hu
  case h_2 => cases hu
  rename_i el' hu'
  injection hu with hu; subst hu
  unfold Ex execOp
  have e1 : (Instr.sliceBound (.int k2 hi') cap .sliceAcap).run P w = .ok hi'.toNat w := run_sliceBound (by omega) (by omega)
  simp [Instr.sliceAt, Instr.slice, run_underlying hu', hx, hz, Instr.sliceBounds, e1, run_sizeOf hs, slv]
theorem ex_sliceL {el : TypeId} {k1 : IntKind} {li : Int} (hx : a.eval x = v) (hy : a.eval y = .int k1 li) (hu : sliceB P t = some el) (hs : sizeB P el = some sz) (hv : IsSl v n) (h0 : 0 ≤ li) (h1 : li ≤ n) :
    Ex P a ⟨dst, .slice t x (some y) none none, ty, pos, af, gd⟩ w (slv v li.toNat n sz) := by
  obtain ⟨q, cap, rfl, hn, hq⟩ := hv.ex
  unfold sliceB at hu
  split at hu
  case h_2 => cases hu
  rename_i el' hu'
  injection hu with hu; subst hu
  unfold Ex execOp
  have e2 : (Instr.sliceBound (.int k1 li) n .sliceB).run P w = .ok li.toNat w := run_sliceBound h0 (by omega)
  simp [Instr.sliceAt, Instr.slice, run_underlying hu', hx, hy, Instr.sliceBounds, e2, run_sizeOf hs, slv]
/-- 'x[:h]' of an array. -/
theorem ex_sliceAH {el : TypeId} {k2 : IntKind} {hi' : Int} (hx : a.eval x = .pointer (some p)) (hz : a.eval z = .int k2 hi') (hu : arrayB P t = some (n, el)) (hs : sizeB P el = some sz) (h1 : 0 ≤ hi') (h2 : hi' ≤ n) :
    Ex P a ⟨dst, .slice t x none (some z) none, ty, pos, af, gd⟩ w (.slice (some p) hi'.toNat n) := by
  unfold arrayB at hu
  split at hu
  case h_2 => cases hu
  rename_i n' el' he
  injection hu with hu; injection hu with e1 e2; subst e1; subst e2
  have e1 : (Instr.sliceBound (.int k2 hi') n' .sliceAlen).run P w = .ok hi'.toNat w := run_sliceBound h1 (by omega)
  unfold Ex execOp
  simp [Instr.sliceAt, run_underlying he, hx, hz, Instr.sureAddr, Instr.sliceBounds, e1, run_sizeOf hs, Addr.add_zero']
/-- 'copy' from one block to another, both from their start. -/
theorem wp_copyA {el : TypeId} {rep rep2 : Ch → List Ch} {dT sT : TypeId} {ds : List Value} {E2 : TypeId} {c1 c2 : Nat} (hx : a.eval x = .slice (some ⟨b, 0, none⟩) n c1) (hy : a.eval y = .slice (some ⟨b', 0, none⟩) n c2) (hu : sliceB P dT = some el) (hs : sizeB P el = some 1)
    (hS : Sat w I L) [hi : HasCells L b E cs rep] [hj : HasCells L b' E2 ds rep2] (h1 : n ≤ cs.length) (h2 : n ≤ ds.length) (ho : Oc ds)
    (h : ∀ w', Sat w' I (rep (Cells b E (ds.take n ++ cs.drop n))) → K (a.put dst (.int .i64 n)) w') :
    Oper.wp P ⟨dst, .call ⟨.builtin .copy, #[x, y], #[dT, sT]⟩, ty, pos, af, gd⟩ a w K Q := by
  unfold sliceB at hu
  split at hu
  case h_2 => cases hu
  rename_i el' hu'
  injection hu with hu; subst hu
  have hrd := (Rd.of_block (k := 0) (hS.blkH (hi := hj))).take n
  rw [List.drop_zero] at hrd
  have hl : (ds.take n).length = n := by simp [h2]
  have hr := run_copy_row (P := P) w dT sT ty el' b 0 n c1 ⟨b', 0, none⟩ n c2 cs.toArray E (ds.take n) hu' hs (hS.blkH (hi := hi)) (by rw [hl]; exact (Nat.min_self n).symm) hrd (by rw [hl]; simpa using h1) (fun v hv => ho v (List.mem_of_mem_take hv))
  rw [hl] at hr
  simp only [Nat.zero_add, List.take_zero, List.nil_append] at hr
  have := h _ (hS.setRow (hi := hi) (ds.take n ++ cs.drop n))
  unfold Oper.wp execOp
  simp only [resolve, invoke, builtin, Sem.run_bind, Sem.run_pure, Result.andThen_ok, List.map_toArray, List.map_cons, List.map_nil, hx, hy, hr]
  exact this
end
end Go.SL

/- Bringing a chunk to the front, putting it back, letting go of it. -/
namespace Go.SL
section
variable {w : World} {I : Gh} {L : List Ch}
theorem Sat.up2 {c0 c1 c2 : Ch} (h : Sat w I (c0 :: c1 :: c2 :: L)) : Sat w I (c2 :: c0 :: c1 :: L) := h.perm (perm_pull (i := 2) rfl)
theorem Sat.dn2 {c0 c1 c2 : Ch} (h : Sat w I (c0 :: c1 :: c2 :: L)) : Sat w I (c1 :: c2 :: c0 :: L) := h.perm (perm_pull (i := 2) (L := c1 :: c2 :: c0 :: L) rfl).symm
theorem Sat.up3 {c0 c1 c2 c3 : Ch} (h : Sat w I (c0 :: c1 :: c2 :: c3 :: L)) : Sat w I (c3 :: c0 :: c1 :: c2 :: L) := h.perm (perm_pull (i := 3) rfl)
theorem Sat.dn3 {c0 c1 c2 c3 : Ch} (h : Sat w I (c0 :: c1 :: c2 :: c3 :: L)) : Sat w I (c1 :: c2 :: c3 :: c0 :: L) := h.perm (perm_pull (i := 3) (L := c1 :: c2 :: c3 :: c0 :: L) rfl).symm
theorem Sat.up4 {c0 c1 c2 c3 c4 : Ch} (h : Sat w I (c0 :: c1 :: c2 :: c3 :: c4 :: L)) : Sat w I (c4 :: c0 :: c1 :: c2 :: c3 :: L) := h.perm (perm_pull (i := 4) rfl)
theorem Sat.dn4 {c0 c1 c2 c3 c4 : Ch} (h : Sat w I (c0 :: c1 :: c2 :: c3 :: c4 :: L)) : Sat w I (c1 :: c2 :: c3 :: c4 :: c0 :: L) := h.perm (perm_pull (i := 4) (L := c1 :: c2 :: c3 :: c4 :: c0 :: L) rfl).symm
theorem Sat.up5 {c0 c1 c2 c3 c4 c5 : Ch} (h : Sat w I (c0 :: c1 :: c2 :: c3 :: c4 :: c5 :: L)) : Sat w I (c5 :: c0 :: c1 :: c2 :: c3 :: c4 :: L) := h.perm (perm_pull (i := 5) rfl)
theorem Sat.dn5 {c0 c1 c2 c3 c4 c5 : Ch} (h : Sat w I (c0 :: c1 :: c2 :: c3 :: c4 :: c5 :: L)) : Sat w I (c1 :: c2 :: c3 :: c4 :: c5 :: c0 :: L) := h.perm (perm_pull (i := 5) (L := c1 :: c2 :: c3 :: c4 :: c5 :: c0 :: L) rfl).symm
theorem Sat.up6 {c0 c1 c2 c3 c4 c5 c6 : Ch} (h : Sat w I (c0 :: c1 :: c2 :: c3 :: c4 :: c5 :: c6 :: L)) : Sat w I (c6 :: c0 :: c1 :: c2 :: c3 :: c4 :: c5 :: L) := h.perm (perm_pull (i := 6) rfl)
theorem Sat.dn6 {c0 c1 c2 c3 c4 c5 c6 : Ch} (h : Sat w I (c0 :: c1 :: c2 :: c3 :: c4 :: c5 :: c6 :: L)) : Sat w I (c1 :: c2 :: c3 :: c4 :: c5 :: c6 :: c0 :: L) := h.perm (perm_pull (i := 6) (L := c1 :: c2 :: c3 :: c4 :: c5 :: c6 :: c0 :: L) rfl).symm
theorem Sat.up7 {c0 c1 c2 c3 c4 c5 c6 c7 : Ch} (h : Sat w I (c0 :: c1 :: c2 :: c3 :: c4 :: c5 :: c6 :: c7 :: L)) : Sat w I (c7 :: c0 :: c1 :: c2 :: c3 :: c4 :: c5 :: c6 :: L) := h.perm (perm_pull (i := 7) rfl)
theorem Sat.dn7 {c0 c1 c2 c3 c4 c5 c6 c7 : Ch} (h : Sat w I (c0 :: c1 :: c2 :: c3 :: c4 :: c5 :: c6 :: c7 :: L)) : Sat w I (c1 :: c2 :: c3 :: c4 :: c5 :: c6 :: c7 :: c0 :: L) := h.perm (perm_pull (i := 7) (L := c1 :: c2 :: c3 :: c4 :: c5 :: c6 :: c7 :: c0 :: L) rfl).symm
theorem Sat.up8 {c0 c1 c2 c3 c4 c5 c6 c7 c8 : Ch} (h : Sat w I (c0 :: c1 :: c2 :: c3 :: c4 :: c5 :: c6 :: c7 :: c8 :: L)) : Sat w I (c8 :: c0 :: c1 :: c2 :: c3 :: c4 :: c5 :: c6 :: c7 :: L) := h.perm (perm_pull (i := 8) rfl)
theorem Sat.dn8 {c0 c1 c2 c3 c4 c5 c6 c7 c8 : Ch} (h : Sat w I (c0 :: c1 :: c2 :: c3 :: c4 :: c5 :: c6 :: c7 :: c8 :: L)) : Sat w I (c1 :: c2 :: c3 :: c4 :: c5 :: c6 :: c7 :: c8 :: c0 :: L) := h.perm (perm_pull (i := 8) (L := c1 :: c2 :: c3 :: c4 :: c5 :: c6 :: c7 :: c8 :: c0 :: L) rfl).symm
theorem Sat.up9 {c0 c1 c2 c3 c4 c5 c6 c7 c8 c9 : Ch} (h : Sat w I (c0 :: c1 :: c2 :: c3 :: c4 :: c5 :: c6 :: c7 :: c8 :: c9 :: L)) : Sat w I (c9 :: c0 :: c1 :: c2 :: c3 :: c4 :: c5 :: c6 :: c7 :: c8 :: L) := h.perm (perm_pull (i := 9) rfl)
theorem Sat.dn9 {c0 c1 c2 c3 c4 c5 c6 c7 c8 c9 : Ch} (h : Sat w I (c0 :: c1 :: c2 :: c3 :: c4 :: c5 :: c6 :: c7 :: c8 :: c9 :: L)) : Sat w I (c1 :: c2 :: c3 :: c4 :: c5 :: c6 :: c7 :: c8 :: c9 :: c0 :: L) := h.perm (perm_pull (i := 9) (L := c1 :: c2 :: c3 :: c4 :: c5 :: c6 :: c7 :: c8 :: c9 :: c0 :: L) rfl).symm
theorem Sat.up10 {c0 c1 c2 c3 c4 c5 c6 c7 c8 c9 c10 : Ch} (h : Sat w I (c0 :: c1 :: c2 :: c3 :: c4 :: c5 :: c6 :: c7 :: c8 :: c9 :: c10 :: L)) : Sat w I (c10 :: c0 :: c1 :: c2 :: c3 :: c4 :: c5 :: c6 :: c7 :: c8 :: c9 :: L) := h.perm (perm_pull (i := 10) rfl)
theorem Sat.dn10 {c0 c1 c2 c3 c4 c5 c6 c7 c8 c9 c10 : Ch} (h : Sat w I (c0 :: c1 :: c2 :: c3 :: c4 :: c5 :: c6 :: c7 :: c8 :: c9 :: c10 :: L)) : Sat w I (c1 :: c2 :: c3 :: c4 :: c5 :: c6 :: c7 :: c8 :: c9 :: c10 :: c0 :: L) := h.perm (perm_pull (i := 10) (L := c1 :: c2 :: c3 :: c4 :: c5 :: c6 :: c7 :: c8 :: c9 :: c10 :: c0 :: L) rfl).symm
theorem Sat.del1 {c0 c1 : Ch} (h : Sat w I (c0 :: c1 :: L)) : Sat w I (c0 :: L) := (h.perm (perm_pull (i := 1) rfl)).drop
theorem Sat.del2 {c0 c1 c2 : Ch} (h : Sat w I (c0 :: c1 :: c2 :: L)) : Sat w I (c0 :: c1 :: L) := (h.perm (perm_pull (i := 2) rfl)).drop
theorem Sat.del3 {c0 c1 c2 c3 : Ch} (h : Sat w I (c0 :: c1 :: c2 :: c3 :: L)) : Sat w I (c0 :: c1 :: c2 :: L) := (h.perm (perm_pull (i := 3) rfl)).drop
theorem Sat.del4 {c0 c1 c2 c3 c4 : Ch} (h : Sat w I (c0 :: c1 :: c2 :: c3 :: c4 :: L)) : Sat w I (c0 :: c1 :: c2 :: c3 :: L) := (h.perm (perm_pull (i := 4) rfl)).drop
theorem Sat.del5 {c0 c1 c2 c3 c4 c5 : Ch} (h : Sat w I (c0 :: c1 :: c2 :: c3 :: c4 :: c5 :: L)) : Sat w I (c0 :: c1 :: c2 :: c3 :: c4 :: L) := (h.perm (perm_pull (i := 5) rfl)).drop
theorem Sat.del6 {c0 c1 c2 c3 c4 c5 c6 : Ch} (h : Sat w I (c0 :: c1 :: c2 :: c3 :: c4 :: c5 :: c6 :: L)) : Sat w I (c0 :: c1 :: c2 :: c3 :: c4 :: c5 :: L) := (h.perm (perm_pull (i := 6) rfl)).drop
theorem Sat.del7 {c0 c1 c2 c3 c4 c5 c6 c7 : Ch} (h : Sat w I (c0 :: c1 :: c2 :: c3 :: c4 :: c5 :: c6 :: c7 :: L)) : Sat w I (c0 :: c1 :: c2 :: c3 :: c4 :: c5 :: c6 :: L) := (h.perm (perm_pull (i := 7) rfl)).drop
theorem Sat.del8 {c0 c1 c2 c3 c4 c5 c6 c7 c8 : Ch} (h : Sat w I (c0 :: c1 :: c2 :: c3 :: c4 :: c5 :: c6 :: c7 :: c8 :: L)) : Sat w I (c0 :: c1 :: c2 :: c3 :: c4 :: c5 :: c6 :: c7 :: L) := (h.perm (perm_pull (i := 8) rfl)).drop
end
end Go.SL

/- Further laws: strings made out of bytes; comparisons by decision. -/
namespace Go.SL
open Go.RowKit
section
variable {P : Program} {w w' : World} {I J : Gh} {L M : List Ch} {b b' : Nat} {E : TypeId} {cs xs ys : List Value} {v u : Value} {n m k sz : Nat} {p : Addr}
variable {a : Act} {K : Act → World → Prop} {Q : Exit → Act → World → Prop} {dst : Option Tmp} {x y z : Operand} {t ty : TypeId} {pos : String} {af : Array Edge} {gd : Option (Nat × Bool)}
theorem ex_eqlStrL {l r : List UInt8} {yt : TypeId} (hx : a.eval x = .string ⟨l.toArray⟩) (hy : a.eval y = .string ⟨r.toArray⟩) : Ex P a ⟨dst, .binOp .eql t x y yt, ty, pos, af, gd⟩ w (.bool (l == r)) := by
  have := ex_eqlStr (P := P) (dst := dst) (t := t) (ty := ty) (pos := pos) (af := af) (gd := gd) (w := w) (yt := yt) hx hy
  rwa [ByteArray.toList_mk, ByteArray.toList_mk] at this
theorem ex_neqStrL {l r : List UInt8} {yt : TypeId} (hx : a.eval x = .string ⟨l.toArray⟩) (hy : a.eval y = .string ⟨r.toArray⟩) : Ex P a ⟨dst, .binOp .neq t x y yt, ty, pos, af, gd⟩ w (.bool (l != r)) := by
  have := ex_neqStr (P := P) (dst := dst) (t := t) (ty := ty) (pos := pos) (af := af) (gd := gd) (w := w) (yt := yt) hx hy
  rwa [ByteArray.toList_mk, ByteArray.toList_mk] at this
theorem ex_neqBoolS {r : Bool} {yt : TypeId} (hx : a.eval x = .bool r) (hy : a.eval y = .bool r) (hu : P.underlying t = some .bool) : Ex P a ⟨dst, .binOp .neq t x y yt, ty, pos, af, gd⟩ w (.bool false) := by
  have := ex_neqBool (P := P) (dst := dst) (t := t) (ty := ty) (pos := pos) (af := af) (gd := gd) (w := w) (yt := yt) hx hy hu
  simpa using this
theorem Rds.all (h : Rds I [] v xs) : Rds I L v xs := fun w X hS => h w (X ++ L) (by rw [List.append_nil]; exact hS)
theorem Rds.rd0 (h : Rds I [] v xs) (hS : Sat w I L) : RdS w v xs := h w L (by rw [List.append_nil]; exact hS)
end
end Go.SL
