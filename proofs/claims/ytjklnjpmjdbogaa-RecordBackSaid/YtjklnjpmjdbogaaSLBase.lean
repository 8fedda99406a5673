/- The base of the proofs: a heap predicate 'Sat w I L': the world w holds the blocks that the chunks L own, apart from one another, and the immutable blocks of I. -/
import Derived.WalkKit
import Derived.WalkSpells
import Derived.WalkLawsBesides
namespace Go.SL
open Go.RowKit

abbrev Fp := Nat → Option Obj
abbrev Ch := Fp → Prop

structure Gh where
  os : Os
  tape : Nat → Question → Nat
  output : Array (Nat × ByteArray)
  imm : Fp

structure Gh.le (I J : Gh) : Prop where
  os : J.os = I.os
  tape : J.tape = I.tape
  output : J.output = I.output
  imm : ∀ b o, I.imm b = some o → J.imm b = some o

theorem Gh.le.refl (I : Gh) : I.le I := ⟨rfl, rfl, rfl, fun _ _ h => h⟩
theorem Gh.le.trans {I J K : Gh} (h : I.le J) (k : J.le K) : I.le K :=
  ⟨k.os.trans h.os, k.tape.trans h.tape, k.output.trans h.output, fun b o e => k.imm b o (h.imm b o e)⟩

def Fp.Disj (f g : Fp) : Prop := ∀ b, f b = none ∨ g b = none
def Fp.join (f g : Fp) : Fp := fun b => (f b).or (g b)
def Fp.emp : Fp := fun _ => none

theorem Fp.Disj.symm {f g : Fp} (h : Fp.Disj f g) : Fp.Disj g f := fun b => (h b).symm
theorem Fp.join_comm {f g : Fp} (h : Fp.Disj f g) : Fp.join f g = Fp.join g f := by
  funext b; simp only [Fp.join]; rcases h b with e | e <;> rw [e] <;> simp
theorem Fp.join_assoc (f g k : Fp) : Fp.join (Fp.join f g) k = Fp.join f (Fp.join g k) := by
  funext b; simp [Fp.join, Option.or_assoc]
theorem Fp.disj_join {f g k : Fp} : Fp.Disj f (Fp.join g k) ↔ Fp.Disj f g ∧ Fp.Disj f k := by
  simp only [Fp.Disj, Fp.join]
  constructor
  · intro h; constructor <;> intro b <;> have := h b <;> cases hf : f b <;> simp_all
  · rintro ⟨h, k'⟩ b; have := h b; have := k' b; cases hf : f b <;> simp_all
theorem Fp.join_disj {f g k : Fp} : Fp.Disj (Fp.join g k) f ↔ Fp.Disj g f ∧ Fp.Disj k f :=
  ⟨fun h => let ⟨a, b⟩ := Fp.disj_join.1 h.symm; ⟨a.symm, b.symm⟩, fun ⟨a, b⟩ => (Fp.disj_join.2 ⟨a.symm, b.symm⟩).symm⟩
theorem Fp.join_emp (f : Fp) : Fp.join f Fp.emp = f := by funext b; simp [Fp.join, Fp.emp]
theorem Fp.emp_join (f : Fp) : Fp.join Fp.emp f = f := by funext b; simp [Fp.join, Fp.emp]
theorem Fp.emp_disj (f : Fp) : Fp.Disj Fp.emp f := fun _ => .inl rfl

def Holds : List Ch → Fp → Prop
  | [], _ => True
  | c :: L, f => ∃ g h, Fp.Disj g h ∧ f = Fp.join g h ∧ c g ∧ Holds L h

theorem Holds.perm {L M : List Ch} (p : L.Perm M) : ∀ {f}, Holds L f → Holds M f := by
  induction p with
  | nil => exact fun h => h
  | cons c _ ih => rintro f ⟨g, h, d, e, hc, hh⟩; exact ⟨g, h, d, e, hc, ih hh⟩
  | swap c d L =>
    rintro f ⟨g, h, dj, e, hd, g', h', dj', e', hc, hL⟩
    subst e'
    obtain ⟨d1, d2⟩ := Fp.disj_join.1 dj
    refine ⟨g', Fp.join g h', ?_, ?_, hc, g, h', d2, rfl, hd, hL⟩
    · exact Fp.disj_join.2 ⟨d1.symm, dj'⟩
    · rw [e, ← Fp.join_assoc, ← Fp.join_assoc, Fp.join_comm d1]
  | trans _ _ i1 i2 => exact fun h => i2 (i1 h)

structure Sat (w : World) (I : Gh) (L : List Ch) : Prop where
  ex : ∃ f, Holds L f ∧ ∀ b o, f b = some o → w.heap[b]? = some o ∧ I.imm b = none
  imm : ∀ b o, I.imm b = some o → w.heap[b]? = some o
  os : w.os = I.os
  tape : w.tape = I.tape
  output : w.output = I.output

section
variable {w w' : World} {I J : Gh} {L M : List Ch} {c d : Ch} {b b' : Nat} {o o' : Obj}

def Blk (b : Nat) (o : Obj) : Ch := fun f => f b = some o
def Cells (b : Nat) (E : TypeId) (cs : List Value) : Ch := Blk b (.cells cs.toArray E (0, 0))
def Star (L : List Ch) : Ch := Holds L

theorem Sat.perm (h : Sat w I L) (p : L.Perm M) : Sat w I M :=
  ⟨let ⟨f, a, b⟩ := h.ex; ⟨f, a.perm p, b⟩, h.imm, h.os, h.tape, h.output⟩
theorem Sat.map (h : Sat w I L) (p : ∀ f, Holds L f → Holds M f) : Sat w I M :=
  ⟨let ⟨f, a, b⟩ := h.ex; ⟨f, p f a, b⟩, h.imm, h.os, h.tape, h.output⟩
theorem Sat.head (h : Sat w I (c :: L)) (p : ∀ f, c f → d f) : Sat w I (d :: L) :=
  h.map fun _ ⟨g, k, a, e, x, y⟩ => ⟨g, k, a, e, p _ x, y⟩
theorem Sat.drop (h : Sat w I (c :: L)) : Sat w I L := by
  obtain ⟨⟨f, ⟨g, k, dj, e, hc, hL⟩, hf⟩, hi, a, b, c⟩ := h
  refine ⟨⟨k, hL, fun b o hb => hf b o ?_⟩, hi, a, b, c⟩
  subst e
  rcases dj b with e | e
  · simp [Fp.join, e, hb]
  · rw [e] at hb; cases hb
theorem Sat.nil (h : Sat w I L) : Sat w I [] := ⟨let ⟨f, _, b⟩ := h.ex; ⟨f, trivial, b⟩, h.imm, h.os, h.tape, h.output⟩
theorem Sat.swap (h : Sat w I (c :: d :: L)) : Sat w I (d :: c :: L) := h.perm (List.Perm.swap ..)
theorem Sat.ex_head {α : Sort _} {k : α → Ch} (h : Sat w I ((fun f => ∃ x, k x f) :: L)) : ∃ x, Sat w I (k x :: L) := by
  obtain ⟨⟨f, ⟨g, m, dj, e, ⟨x, hc⟩, hL⟩, hf⟩, r1, r2, r3, r4⟩ := h
  exact ⟨x, ⟨⟨f, ⟨g, m, dj, e, hc, hL⟩, hf⟩, r1, r2, r3, r4⟩⟩
theorem Sat.and_head {p : Prop} (h : Sat w I ((fun f => p ∧ c f) :: L)) : p ∧ Sat w I (c :: L) := by
  obtain ⟨⟨f, ⟨g, m, dj, e, ⟨hp, hc⟩, hL⟩, hf⟩, r1, r2, r3, r4⟩ := h
  exact ⟨hp, ⟨⟨f, ⟨g, m, dj, e, hc, hL⟩, hf⟩, r1, r2, r3, r4⟩⟩
theorem Holds.append {f : Fp} : Holds (L ++ M) f ↔ ∃ g h, Fp.Disj g h ∧ f = Fp.join g h ∧ Holds L g ∧ Holds M h := by
  induction L generalizing f with
  | nil =>
    constructor
    · intro h; exact ⟨Fp.emp, f, Fp.emp_disj _, (Fp.emp_join f).symm, trivial, h⟩
    · rintro ⟨g, h, dj, e, _, hM⟩
      -- what is left over is let go of
      have key : ∀ (N : List Ch) (g h : Fp), Fp.Disj g h → Holds N h → Holds N (Fp.join g h) := by
        intro N
        induction N with
        | nil => intros; trivial
        | cons c N ih =>
          rintro g h dj ⟨x, y, dxy, e, hc, hN⟩
          subst e
          obtain ⟨d1, d2⟩ := Fp.disj_join.1 dj
          refine ⟨x, Fp.join g y, Fp.disj_join.2 ⟨d1.symm, dxy⟩, ?_, hc, ih g y d2 hN⟩
          rw [← Fp.join_assoc, Fp.join_comm d1, Fp.join_assoc]
      subst e
      exact key M g h dj hM
  | cons c L ih =>
    constructor
    · rintro ⟨g, h, dj, e, hc, hLM⟩
      obtain ⟨x, y, dxy, e', hL, hM⟩ := ih.1 hLM
      subst e'
      obtain ⟨d1, d2⟩ := Fp.disj_join.1 dj
      exact ⟨Fp.join g x, y, Fp.join_disj.2 ⟨d2, dxy⟩, by rw [e, Fp.join_assoc], ⟨g, x, d1, rfl, hc, hL⟩, hM⟩
    · rintro ⟨g, h, dj, e, ⟨x, y, dxy, e', hc, hL⟩, hM⟩
      subst e'
      obtain ⟨d1, d2⟩ := Fp.join_disj.1 dj
      exact ⟨x, Fp.join y h, Fp.disj_join.2 ⟨dxy, d1⟩, by rw [e, Fp.join_assoc], hc, ih.2 ⟨y, h, d2, rfl, hL, hM⟩⟩
theorem Sat.star (h : Sat w I (Star L :: M)) : Sat w I (L ++ M) :=
  h.map fun _ ⟨g, k, dj, e, a, b⟩ => Holds.append.2 ⟨g, k, dj, e, a, b⟩
theorem Sat.unstar (h : Sat w I (L ++ M)) : Sat w I (Star L :: M) :=
  h.map fun _ x => let ⟨g, k, dj, e, a, b⟩ := Holds.append.1 x; ⟨g, k, dj, e, a, b⟩
theorem Sat.mk_ex {α : Sort _} {k : α → Ch} (x : α) (h : Sat w I (k x :: L)) : Sat w I ((fun f => ∃ x, k x f) :: L) := h.head fun _ y => ⟨x, y⟩
theorem Sat.mk_and {p : Prop} (hp : p) (h : Sat w I (c :: L)) : Sat w I ((fun f => p ∧ c f) :: L) := h.head fun _ y => ⟨hp, y⟩

/-- The chunk at a place, brought to the front. -/
theorem perm_pull {α : Type _} : ∀ {L : List α} {i : Nat} {c : α}, L[i]? = some c → L.Perm (c :: L.eraseIdx i)
  | [], _, _, h => by simp at h
  | x :: L, 0, c, h => by simp at h; subst h; exact List.Perm.refl _
  | x :: L, i + 1, c, h => by
    have := perm_pull (L := L) (i := i) (c := c) (by simpa using h)
    exact (List.Perm.cons x this).trans (List.Perm.swap ..)
theorem perm_set {α : Type _} : ∀ {L : List α} {i : Nat} {c d : α}, L[i]? = some c → (L.set i d).Perm (d :: L.eraseIdx i)
  | [], _, _, _, h => by simp at h
  | x :: L, 0, c, d, h => by simp
  | x :: L, i + 1, c, d, h => by
    have := perm_set (L := L) (i := i) (c := c) (d := d) (by simpa using h)
    exact (List.Perm.cons x this).trans (List.Perm.swap ..)
theorem Sat.pull (h : Sat w I L) (i : Nat) (hi : L[i]? = some c) : Sat w I (c :: L.eraseIdx i) := h.perm (perm_pull hi)
theorem Sat.push (i : Nat) (hi : L[i]? = some c) (h : Sat w I (d :: L.eraseIdx i)) : Sat w I (L.set i d) := h.perm (perm_set hi).symm

theorem Sat.blk0 (h : Sat w I (Blk b o :: L)) : w.heap[b]? = some o := by
  obtain ⟨⟨f, ⟨g, m, dj, e, hc, hL⟩, hf⟩, _⟩ := h
  exact (hf b o (by rw [e]; simp only [Fp.join]; rw [show g b = some o from hc]; rfl)).1
theorem Sat.blk (h : Sat w I L) (i : Nat) (hi : L[i]? = some (Blk b o)) : w.heap[b]? = some o := (h.pull i hi).blk0
theorem Sat.blk_ne (h : Sat w I (Blk b o :: Blk b' o' :: L)) : b ≠ b' := by
  rintro rfl
  obtain ⟨⟨f, ⟨g, m, dj, e, hc, g', m', dj', e', hc', hL⟩, hf⟩, _⟩ := h
  have h1 : g b = some o := hc
  have h2 : g' b = some o' := hc'
  subst e'
  rcases dj b with x | x
  · rw [h1] at x; cases x
  · simp [Fp.join, h2] at x
theorem Sat.blk_imm (h : Sat w I (Blk b o :: L)) : I.imm b = none := by
  obtain ⟨⟨f, ⟨g, m, dj, e, hc, hL⟩, hf⟩, _⟩ := h
  exact (hf b o (by rw [e]; simp only [Fp.join]; rw [show g b = some o from hc]; rfl)).2

/-- A world that differs in one owned block alone. -/
theorem Sat.write (h : Sat w I (Blk b o :: L)) (hb : w'.heap[b]? = some o') (hr : ∀ k, k ≠ b → w'.heap[k]? = w.heap[k]?)
    (h1 : w'.os = w.os) (h2 : w'.tape = w.tape) (h3 : w'.output = w.output) : Sat w' I (Blk b o' :: L) := by
  have him := h.blk_imm
  obtain ⟨⟨f, ⟨g, m, dj, e, hc, hL⟩, hf⟩, hi, a, t, u⟩ := h
  have hgb : g b = some o := hc
  have hm : m b = none := by rcases dj b with x | x; (rw [hgb] at x; cases x); exact x
  refine ⟨⟨Fp.join (fun k => if k = b then some o' else none) m, ⟨_, m, ?_, rfl, ?_, hL⟩, ?_⟩, ?_, h1.trans a, h2.trans t, h3.trans u⟩
  · intro k; by_cases hk : k = b
    · subst hk; exact .inr hm
    · simp [hk]
  · simp [Blk]
  · intro k x hx
    by_cases hk : k = b
    · subst hk
      simp [Fp.join] at hx
      subst hx
      exact ⟨hb, him⟩
    · simp [Fp.join, hk] at hx
      have : f k = some x := by
        subst e
        rcases dj k with y | y
        · simp [Fp.join, y, hx]
        · rw [y] at hx; cases hx
      rw [hr k hk]
      exact hf k x this
  · intro k x hx
    have hk : k ≠ b := by rintro rfl; rw [him] at hx; cases hx
    rw [hr k hk]; exact hi k x hx

theorem Sat.upd (h : Sat w I L) (i : Nat) (hi : L[i]? = some (Blk b o)) (hb : w'.heap[b]? = some o') (hr : ∀ k, k ≠ b → w'.heap[k]? = w.heap[k]?)
    (h1 : w'.os = w.os) (h2 : w'.tape = w.tape) (h3 : w'.output = w.output) : Sat w' I (L.set i (Blk b o')) :=
  ((h.pull i hi).write hb hr h1 h2 h3).push i hi

/-- A new block. -/
theorem Sat.alloc (h : Sat w I L) (o : Obj) : Sat (w.alloc o) I (Blk w.heap.size o :: L) := by
  obtain ⟨⟨f, hL, hf⟩, hi, a, t, u⟩ := h
  have lt : ∀ {k : Nat} {x : Obj}, w.heap[k]? = some x → k < w.heap.size := fun hk => (Array.getElem?_eq_some_iff.1 hk).1
  have old : ∀ {k : Nat} {x : Obj}, w.heap[k]? = some x → (w.alloc o).heap[k]? = some x := fun hk => by
    rw [Below.heap_alloc w o _ (lt hk)]; exact hk
  have fn : f w.heap.size = none := by
    cases hx : f w.heap.size with
    | none => rfl
    | some x => have := lt (hf _ _ hx).1; omega
  have inn : I.imm w.heap.size = none := by
    cases hx : I.imm w.heap.size with
    | none => rfl
    | some x => have := lt (hi _ _ hx); omega
  refine ⟨⟨Fp.join (fun k => if k = w.heap.size then some o else none) f, ⟨_, f, ?_, rfl, ?_, hL⟩, ?_⟩, ?_, a, t, u⟩
  · intro k; by_cases hk : k = w.heap.size
    · subst hk; exact .inr fn
    · simp [hk]
  · simp [Blk]
  · intro k x hx
    by_cases hk : k = w.heap.size
    · subst hk
      simp [Fp.join] at hx
      subst hx
      exact ⟨heap_alloc_new w _, inn⟩
    · simp [Fp.join, hk] at hx
      exact ⟨old (hf k x hx).1, (hf k x hx).2⟩
  · exact fun k x hx => old (hi k x hx)

theorem Sat.same (h : Sat w I L) (hh : w'.heap = w.heap) (h1 : w'.os = w.os) (h2 : w'.tape = w.tape) (h3 : w'.output = w.output) : Sat w' I L :=
  ⟨let ⟨f, a, b⟩ := h.ex; ⟨f, a, fun k o e => by rw [hh]; exact b k o e⟩, fun k o e => by rw [hh]; exact h.imm k o e, h1.trans h.os, h2.trans h.tape, h3.trans h.output⟩
theorem Sat.drew (h : Sat w I L) : Sat w.drew I L := h.same rfl rfl rfl rfl

/-- What is owned by the first chunk is given up to the immutable blocks, for good. -/
theorem Sat.freeze (h : Sat w I (c :: L)) : ∃ J, I.le J ∧ Sat w J L ∧ ∃ f, c f ∧ ∀ b o, f b = some o → J.imm b = some o := by
  obtain ⟨⟨f, ⟨g, m, dj, e, hc, hL⟩, hf⟩, hi, a, t, u⟩ := h
  have gf : ∀ b o, g b = some o → f b = some o := fun b o hb => by subst e; simp [Fp.join, hb]
  have mf : ∀ b o, m b = some o → f b = some o := fun b o hb => by
    subst e; rcases dj b with y | y
    · simp [Fp.join, y, hb]
    · rw [y] at hb; cases hb
  refine ⟨⟨I.os, I.tape, I.output, Fp.join I.imm g⟩, ⟨rfl, rfl, rfl, fun b o hb => by simp [Fp.join, hb]⟩, ⟨⟨m, hL, ?_⟩, ?_, a, t, u⟩, g, hc, ?_⟩
  · intro b o hb
    refine ⟨(hf b o (mf b o hb)).1, ?_⟩
    have h1 := (hf b o (mf b o hb)).2
    have h2 : g b = none := by rcases dj b with y | y; exact y; (rw [y] at hb; cases hb)
    simp [Fp.join, h1, h2]
  · intro b o hb
    simp only [Fp.join] at hb
    cases hx : I.imm b with
    | some x => rw [hx] at hb; simp at hb; subst hb; exact hi b _ hx
    | none => rw [hx] at hb; simp at hb; exact (hf b o (gf b o hb)).1
  · intro b o hb
    have h1 := (hf b o (gf b o hb)).2
    simp [Fp.join, h1, hb]

def Gh.of (w : World) : Gh := ⟨w.os, w.tape, w.output, fun b => w.heap[b]?⟩
theorem Sat.init (w : World) : Sat w (Gh.of w) [] :=
  ⟨⟨Fp.emp, trivial, fun b o h => by cases h⟩, fun _ _ h => h, rfl, rfl, rfl⟩
theorem Sat.below (h : Sat w' J L) (hle : (Gh.of w).le J) : Below w.heap.size w w' := by
  have hb : ∀ k, k < w.heap.size → w'.heap[k]? = w.heap[k]? := fun k hk => by
    have : w.heap[k]? = some w.heap[k] := by simp [hk]
    rw [this]; exact h.imm _ _ (hle.imm _ _ this)
  refine ⟨h.os.trans hle.os, h.tape.trans hle.tape, h.output.trans hle.output, ?_, hb⟩
  rcases Nat.eq_zero_or_pos w.heap.size with e | e
  · omega
  · have h1 := hb (w.heap.size - 1) (by omega)
    have h2 : w.heap[w.heap.size - 1]? = some w.heap[w.heap.size - 1] := by simp
    rw [h2] at h1
    have := (Array.getElem?_eq_some_iff.1 h1).1
    omega
end
end Go.SL
