/- A region that draws its order: operations that only read what the other operations leave alone may be taken first. -/
import Derived.Test.YtjklnjpmjdbogaaSLOps
namespace Go.SL
open Go.RowKit
section
variable {P : Program} {ops : Array Oper} {Q : Exit → Act → World → Prop} {G : World → Prop} {A : Nat → Bool}

def wpG (P : Program) (ops : Array Oper) (Q : Exit → Act → World → Prop) (A : Nat → Bool) (G : World → Prop) : Nat → Array Bool → Act → World → Prop
  | 0, listed, a, w => Region.ready .any ops listed = [] ∧ Q .normal a w
  | fuel + 1, listed, a, w => (Region.ready .any ops listed = [] → Q .normal a w) ∧
    ∀ i ∈ Region.ready .any ops listed, wpOp P ops Q i (fun a' w' => (A i = true → G w → G w') ∧ wpG P ops Q A G fuel (listed.setIfInBounds i true) a' w') a w

theorem wpG_any : ∀ (fuel : Nat) (listed : Array Bool) (a : Act) (w : World), wpG P ops Q A G fuel listed a w → wpAny P .any ops Q fuel listed a w
  | 0, _, _, _, h => h
  | fuel + 1, _, _, _, h => ⟨h.1, fun i hi => wpOp_mono (fun a' w' k => wpG_any fuel _ a' w' k.2) (h.2 i hi)⟩

theorem wp_region_G {id : Nat} {a : Act} {w : World} (A : Nat → Bool) (G : World → Prop) (hm : P.follows .mixedOrders = true)
    (h : wpG P ops Q A G ops.size (Array.replicate ops.size false) a w.drew) : (Code.region id ops true).wp P Q a w :=
  wp_region_any hm (wpG_any _ _ _ _ h)

def YieldsG (P : Program) (ops : Array Oper) (G : World → Prop) (o : Oper) (v : Value) (a : Act) : Prop :=
  (Region.wanted o (yielded ops a.tmps) = true ∧ ∀ w, G w → (execOp a.eval o).run P w = .ok (.value v) w) ∨
  (Region.wanted o (yielded ops a.tmps) = false ∧ v = undef)
theorem YieldsG.wpOp {i : Nat} {o : Oper} {v : Value} {a : Act} (hi : ops[i]? = some o) (hy : YieldsG P ops G o v a)
    {K : Act → World → Prop} {w : World} (hw : G w) (h : K (a.put o.dst v) w) : wpOp P ops Q i K a w := by
  unfold Go.wpOp
  simp only [hi]
  rcases hy with ⟨hq, hv⟩ | ⟨hq, rfl⟩
  · simp only [hq, if_true, Oper.wp, hv w hw, Oper.upon]; exact .inl h
  · simp only [hq, Bool.false_eq_true, if_false]; exact h
theorem YieldsG.of_same {o : Oper} {v : Value} {a a' : Act} (hy : YieldsG P ops G o v a) (he : execOp a'.eval o = execOp a.eval o)
    (hw : Region.wanted o (yielded ops a'.tmps) = Region.wanted o (yielded ops a.tmps)) : YieldsG P ops G o v a' := by
  unfold YieldsG at *
  rw [he, hw]
  exact hy

theorem wpOp_putG {j : Nat} {oi oj : Oper} {v : Value} (hj : ops[j]? = some oj) (hap : oi.apart ops oj = true)
    (hsi : ∀ cs b, oi.op ≠ .select cs b) (hsj : ∀ cs b, oj.op ≠ .select cs b)
    (hQ : ∀ c a w, Q (.panic c) (a.put oi.dst v) w → Q (.panic c) a w) {K : Act → World → Prop} {a : Act} {w : World}
    (hy : YieldsG P ops G oi v a) (h : wpOp P ops Q j K (a.put oi.dst v) w) :
    wpOp P ops Q j (fun a' w' => YieldsG P ops G oi v a' ∧ K (a'.put oi.dst v) w') a w := by
  obtain ⟨h1, h2, h3⟩ := Oper.apart_spec hap
  have keep : ∀ (a : Act), YieldsG P ops G oi v a → ∀ u, YieldsG P ops G oi v (a.put oj.dst u) := fun a hy u =>
    hy.of_same (execOp_put oi hsi a oj.dst u h3) (wanted_put oi a oj.dst u h3)
  have keepD : ∀ d, YieldsG P ops G oi v { a with defers := d :: a.defers } := fun d => hy.of_same rfl rfl
  unfold wpOp at h ⊢
  simp only [hj] at h ⊢
  rw [wanted_put oj a oi.dst v h1] at h
  by_cases hw : Region.wanted oj (yielded ops a.tmps) = true
  · rw [if_pos hw] at h ⊢
    rcases h with h | ⟨hasks, hlets⟩
    · refine .inl ?_
      unfold Oper.wp at h ⊢
      rw [execOp_put oj hsj a oi.dst v h1] at h
      generalize (execOp a.eval oj).run P w = r at h ⊢
      cases r with
      | ok n w' =>
        cases n with
        | value u => exact ⟨keep a hy u, by rw [← Act.put_comm a v u h2]; exact h⟩
        | skip => exact ⟨keep a hy _, by rw [← Act.put_comm a v undef h2]; exact h⟩
        | defer d => exact ⟨keep _ (keepD d) _, by rw [← Act.put_comm _ v undef h2, ← Act.put_defers]; exact h⟩
        | enter f args =>
          exact Calls.mono h fun e w'' he => by
            cases e with
            | returned u => exact ⟨keep a hy u, by rw [← Act.put_comm a v u h2]; exact he⟩
            | panicked c => exact hQ _ _ _ he
            | outgrown => exact he
        | row row args => exact Rows.mono h fun u w'' he => ⟨keep a hy u, by rw [← Act.put_comm a v u h2]; exact he⟩
        | _ => exact h.elim
      | halt x w' =>
        cases x with
        | panic u => exact hQ _ _ _ h
        | _ => exact h.elim
    · exact .inr ⟨by unfold Oper.asks at hasks ⊢; rw [execOp_put oj hsj a oi.dst v h1] at hasks; exact hasks, hlets⟩
  · rw [if_neg hw] at h ⊢
    exact ⟨keep a hy _, by rw [← Act.put_comm a v undef h2]; exact h⟩

/-- What may come up ahead of operation i: S; it leaves i's slots alone, and (where i reads, B = false) keeps G. -/
def Ahead (A : Nat → Bool) (S : Nat → Bool) (B : Bool) (ops : Array Oper) (listed : Array Bool) (i : Nat) (oi : Oper) : Prop :=
  ∀ j oj, ops[j]? = some oj → j ≠ i → listed.getD j true = false → (∀ e ∈ oj.after, Region.binds .any e = true → listed.getD e.on false = true ∨ S e.on = true) →
    S j = true ∧ oi.apart ops oj = true ∧ (B = true ∨ A j = true)
theorem Ahead.step {S : Nat → Bool} {B : Bool} {listed : Array Bool} {i j : Nat} {oi : Oper} (h : Ahead A S B ops listed i oi) (hj : S j = true) :
    Ahead A S B ops (listed.setIfInBounds j true) i oi := by
  intro k ok hk hki hun hdep
  have hun' : listed.getD k true = false := by
    by_cases hjk : j = k
    · subst hjk
      have hlt : j < listed.size := by
        rcases Nat.lt_or_ge j listed.size with h' | h'
        · exact h'
        · simp [Array.getElem?_eq_none (xs := listed.setIfInBounds j true) (i := j) (by simpa using h')] at hun
      simp [hlt] at hun
    · rw [getD_set_ne true hjk] at hun; exact hun
  refine h k ok hk hki hun' fun e he hb => ?_
  rcases hdep e he hb with h1 | h1
  · by_cases hje : j = e.on
    · exact .inr (hje ▸ hj)
    · rw [getD_set_ne false hje] at h1; exact .inl h1
  · exact .inr h1
theorem wpG_first {i : Nat} {oi : Oper} {v : Value} {S : Nat → Bool} {B : Bool} (hi : ops[i]? = some oi) (hsel : ∀ (j : Nat) (o : Oper) cs b, ops[j]? = some o → o.op ≠ .select cs b)
    (hQ : ∀ c a w, Q (.panic c) (a.put oi.dst v) w → Q (.panic c) a w) :
    ∀ (fuel : Nat) (listed : Array Bool) (a : Act) (w : World), Ahead A S B ops listed i oi →
      i ∈ Region.ready .any ops listed → (B = true ∨ G w) → YieldsG P ops (fun w => B = true ∨ G w) oi v a →
      wpG P ops Q A G fuel (listed.setIfInBounds i true) (a.put oi.dst v) w → wpG P ops Q A G (fuel + 1) listed a w := by
  intro fuel
  induction fuel with
  | zero =>
    intro listed a w _ hr hG hy H
    refine ⟨fun h => (by rw [h] at hr; cases hr), fun j hj => ?_⟩
    by_cases hji : j = i
    · subst hji; exact hy.wpOp hi hG ⟨fun _ h => h, H⟩
    · have := ready_mono hj hji
      rw [H.1] at this
      cases this
  | succ fuel ih =>
    intro listed a w hfree hr hG hy H
    refine ⟨fun h => (by rw [h] at hr; cases hr), fun j hj => ?_⟩
    by_cases hji : j = i
    · subst hji; exact hy.wpOp hi hG ⟨fun _ h => h, H⟩
    · have h1 := H.2 j (ready_mono hj hji)
      obtain ⟨hjun, oj, hoj, hall⟩ := mem_ready.1 hj
      obtain ⟨hSj, hap, hA⟩ := hfree j oj hoj hji hjun (fun e he hb => .inl (hall e he hb))
      have h2 := wpOp_putG hoj hap (fun cs b => hsel i oi cs b hi) (fun cs b => hsel j oj cs b hoj) hQ hy h1
      refine wpOp_mono (fun a' w' h3 => ⟨h3.2.1, ih (listed.setIfInBounds j true) a' w' (hfree.step hSj) (ready_mono hr (Ne.symm hji)) ?_ h3.1 ?_⟩) h2
      · rcases hA with hB | hA
        · exact .inl hB
        · exact hG.imp id (h3.2.1 hA)
      · rw [Array.setIfInBounds_comm _ _ hji]
        exact h3.2.2

/-- What may come up ahead of i, reckoned: an operation waits for earlier ones alone. -/
def aheadOf (ops : Array Oper) (listed : Array Bool) (i : Nat) : Array Bool :=
  (List.range ops.size).foldl (fun s j => s.push (j != i && match ops[j]? with
    | some o => o.after.all fun e => !Region.binds .any e || listed.getD e.on false || s.getD e.on false
    | none => false)) #[]
def freeG (A : Nat → Bool) (S : Nat → Bool) (B : Bool) (ops : Array Oper) (listed : Array Bool) (i : Nat) : Bool :=
  (Region.ready .any ops listed).contains i && Region.noSelect ops &&
  match ops[i]? with
  | none => false
  | some oi => (List.range ops.size).all fun j => j == i || listed.getD j true || match ops[j]? with
      | some oj => oj.after.any (fun e => Region.binds .any e && !listed.getD e.on false && !S e.on) || (S j && oi.apart ops oj && (B || A j))
      | none => true
theorem wpG_take {i : Nat} {oi : Oper} {v : Value} {fuel : Nat} {listed : Array Bool} {a : Act} {w : World} (S : Nat → Bool) (B : Bool)
    (hf : freeG A S B ops listed i = true) (hi : ops[i]? = some oi)
    (hQ : ∀ c a w, Q (.panic c) (a.put oi.dst v) w → Q (.panic c) a w) (hG : B = true ∨ G w) (hy : YieldsG P ops (fun w => B = true ∨ G w) oi v a)
    (h : wpG P ops Q A G fuel (listed.setIfInBounds i true) (a.put oi.dst v) w) : wpG P ops Q A G (fuel + 1) listed a w := by
  unfold freeG at hf
  simp only [Bool.and_eq_true, hi] at hf
  obtain ⟨⟨hr, hs⟩, hall⟩ := hf
  refine wpG_first (S := S) hi (Region.noSelect_spec hs) hQ fuel listed a w ?_ (by simpa using hr) hG hy h
  intro j oj hj hne hun hdep
  simp only [List.all_eq_true, List.mem_range] at hall
  have h1 := hall j (Array.getElem?_eq_some_iff.1 hj).1
  simp only [hj, Bool.or_eq_true, beq_iff_eq, hne, false_or, hun, Bool.false_eq_true, Bool.and_eq_true] at h1
  rcases h1 with h1 | h1
  · exfalso
    obtain ⟨e, he, hb⟩ := Array.any_eq_true'.1 h1
    simp only [Bool.and_eq_true, Bool.not_eq_true'] at hb
    rcases hdep e he hb.1.1 with h | h
    · rw [h] at hb; cases hb.1.2
    · rw [h] at hb; cases hb.2
  · exact ⟨h1.1.1, h1.1.2, h1.2⟩
theorem wpG_ready {rs : List Nat} {fuel : Nat} {listed : Array Bool} {a : Act} {w : World} (hr : Region.ready .any ops listed = rs) (hne : rs ≠ [])
    (h : ∀ i ∈ rs, wpOp P ops Q i (fun a' w' => (A i = true → G w → G w') ∧ wpG P ops Q A G fuel (listed.setIfInBounds i true) a' w') a w) : wpG P ops Q A G (fuel + 1) listed a w :=
  ⟨fun h0 => absurd (hr ▸ h0) hne, hr ▸ h⟩
/-- One operation alone may come up. -/
theorem wpG_one {i : Nat} {o : Oper} {fuel : Nat} {listed : Array Bool} {a : Act} {w : World} (hr : Region.ready .any ops listed = [i]) (ho : ops[i]? = some o)
    (hw : Region.wanted o (yielded ops a.tmps) = true)
    (h : o.wp P a w (fun a' w' => (A i = true → G w → G w') ∧ wpG P ops Q A G fuel (listed.setIfInBounds i true) a' w') Q) : wpG P ops Q A G (fuel + 1) listed a w :=
  wpG_ready hr (by simp) fun j hj => by
    simp only [List.mem_singleton] at hj
    subst hj
    unfold wpOp
    rw [ho]
    show if _ then _ else _
    rw [if_pos hw]
    exact .inl h
theorem wpG_done {listed : Array Bool} {a : Act} {w : World} (hr : Region.ready .any ops listed = []) (h : Q .normal a w) :
    ∀ fuel, wpG P ops Q A G fuel listed a w
  | 0 => ⟨hr, h⟩
  | _ + 1 => ⟨fun _ => h, by rw [hr]; simp⟩
end
end Go.SL
