/- A slice made with room: its spare cells are known. -/
import Derived.Test.YtjklnjpmjdbogaaSLMore2
namespace Go.SL
open Go.RowKit
section
variable {P : Program} {w w' : World} {I J : Gh} {L M : List Ch} {b b' : Nat} {E : TypeId} {cs xs ys news : List Value} {v u : Value} {n m k sz cap : Nat} {p : Addr}
variable {a : Act} {K : Act → World → Prop} {Q : Exit → Act → World → Prop} {dst : Option Tmp} {x y z : Operand} {t ty : TypeId} {pos : String} {af : Array Edge} {gd : Option (Nat × Bool)}
theorem wp_makeCap {el : TypeId} {zs : List Value} {by_ : Nat} {kl kc : IntKind} {ln cp : Int} (n cap : Nat) (hx : a.eval x = .int kl ln) (hy : a.eval y = .int kc cp) (hu : sliceB P t = some el) (hs : sizeB P el = some sz) (hb : bytesB P el = some by_) (hz : zeroB P el = some zs)
    (hS : Sat w I L) (hn : ln = (n : Int)) (hc : cp = (cap : Int)) (hnc : n ≤ cap) (hbn : (by_ : Int) * cap ≤ 281474976710656) (hm : (cap : Int) ≤ 9223372036854775807) (hzl : (zs.length == sz) = true)
    (h : ∀ b w', Sat w' I (Cells b el (SL.rep cap zs) :: L) → K (a.put dst (.slice (some ⟨b, 0, none⟩) n cap)) w') :
    Oper.wp P ⟨dst, .makeSlice t x y, ty, pos, af, gd⟩ a w K Q := by
  subst hn; subst hc
  unfold sliceB at hu
  split at hu
  case h_2 => cases hu
  rename_i el' he
  injection hu with hu; subst hu
  unfold sizeB at hs
  unfold bytesB at hb
  unfold zeroB at hz
  cases hi : P.info? el' with
  | none => rw [hi] at hs; cases hs
  | some i =>
    rw [hi] at hs hb hz
    simp only [Option.map_some, Option.some.injEq, Option.bind_some] at hs hb hz
    cases hzz : i.zero with
    | none => rw [hzz] at hz; cases hz
    | some zv =>
      rw [hzz] at hz
      simp only [Option.map_some, Option.some.injEq] at hz
      simp only [beq_iff_eq] at hzl
      have hr := run_make (P := P) w t el' i zv he hi hzz kl kc n cap (by omega) (by omega) (by rw [hb]; exact hbn) hm
      have hcells : madeCells zv.cells ((cap : Int).toNat * i.size) = (SL.rep cap zs).toArray := by
        apply Array.ext'
        have := rep_cells zv.cells cap
        have hsz : zv.cells.size = sz := by rw [← hzl, ← hz]; simp
        rw [hsz] at this
        simp only [madeCells, Int.toNat_natCast, hs, hsz]
        rw [this, hz]
      rw [hcells] at hr
      simp only [Int.toNat_natCast] at hr
      have hnew := h w.heap.size _ (hS.alloc (.cells (SL.rep cap zs).toArray el'))
      unfold Oper.wp execOp
      simp only [hx, hy, Sem.run_bind, hr, Result.andThen_ok, Sem.run_pure]
      exact hnew
theorem wp_appendRoom {rep : Ch → List Ch} (hx : a.eval x = .slice (some ⟨b, 0, none⟩) n cap) (hy : a.eval y = u) (hu : sliceB P t = some E) (hs : sizeB P E = some 1)
    (hS : Sat w I L) [hi : HasCells L b E cs rep] (hc : cs.length = cap) (hsrc : Src w u m 1 news) (hroom : n + m ≤ cap)
    (h : ∀ w', Sat w' I (rep (Cells b E (splice cs n news))) → K (a.put dst (.slice (some ⟨b, 0, none⟩) (n + m) cap)) w') :
    Oper.wp P ⟨dst, .call ⟨.builtin .append, #[x, y], #[t, t]⟩, ty, pos, af, gd⟩ a w K Q := by
  have hus := hs
  unfold sliceB at hu
  split at hu
  case h_2 => cases hu
  rename_i el' he
  injection hu with hu; subst hu
  have hml : news.length = m := by simpa using hsrc.len
  have run : ∃ w', (Builtin.append_ #[t, t] ty #[.slice (some ⟨b, 0, none⟩) n cap, u]).run P w = .ok (.slice (some ⟨b, 0, none⟩) (n + m) cap) w' ∧ Sat w' I (rep (Cells b el' (splice cs n news))) := by
    obtain ⟨ai, cu, hue, hcu, hnone⟩ := hsrc.is.ex
    rcases Nat.eq_zero_or_pos m with h0 | h0
    · subst h0
      have hn0 : news = [] := List.eq_nil_of_length_eq_zero hml
      subst hn0
      refine ⟨w, by rw [hue]; exact run_append_zero he hus (by omega), ?_⟩
      obtain ⟨i, hi, e⟩ := hi.has
      have es : splice cs n [] = cs := by simp [splice]
      rw [es, e, set_same hi]
      exact hS
    · have hne : ai ≠ none := fun e => by have := hnone e; omega
      obtain ⟨ad, rfl⟩ := Option.ne_none_iff_exists'.1 hne
      have hrd := hsrc.rd _ _ _ hue
      unfold sizeB at hs
      cases hin : P.info? el' with
      | none => rw [hin] at hs; cases hs
      | some i =>
        rw [hin] at hs
        simp only [Option.map_some, Option.some.injEq] at hs
        have hr := run_append_room (P := P) w t ty el' i he hin b n cap cs.toArray (hS.blkH (hi := hi)) ad m cu news (by rw [hs]; simpa using hml) hrd hsrc.oc hroom (by rw [hs, Nat.mul_one, hml]; simp only [List.size_toArray]; omega)
        rw [hs, Nat.mul_one] at hr
        rw [hue]
        exact ⟨_, hr, hS.setRow _⟩
  obtain ⟨w', hr, h1⟩ := run
  unfold Oper.wp execOp
  simp only [resolve, invoke, builtin, Sem.run_bind, Sem.run_pure, Result.andThen_ok, List.map_toArray, List.map_cons, List.map_nil, hx, hy, hr]
  exact h w' h1
end
end Go.SL
namespace Go.SL
open Go.RowKit
section
variable {P : Program} {w w' : World} {I J : Gh} {L M : List Ch} {b b' : Nat} {E : TypeId} {cs ds xs ys news : List Value} {v u : Value} {n m k sz cap : Nat} {p : Addr}
variable {a : Act} {K : Act → World → Prop} {Q : Exit → Act → World → Prop} {dst : Option Tmp} {x y z : Operand} {t ty : TypeId} {pos : String} {af : Array Edge} {gd : Option (Nat × Bool)}
theorem wp_appendRoomTo {rep : Ch → List Ch} (hx : a.eval x = .slice (some ⟨b, 0, none⟩) n cap) (hy : a.eval y = u) (hu : sliceB P t = some E) (hs : sizeB P E = some 1)
    (hS : Sat w I L) [hi : HasCells L b E cs rep] (hc : cs.length = cap) (hsrc : Src w u m 1 news) (hroom : n + m ≤ cap) (hd : splice cs n news = ds)
    (h : ∀ w', Sat w' I (rep (Cells b E ds)) → K (a.put dst (.slice (some ⟨b, 0, none⟩) (n + m) cap)) w') :
    Oper.wp P ⟨dst, .call ⟨.builtin .append, #[x, y], #[t, t]⟩, ty, pos, af, gd⟩ a w K Q := by
  subst hd
  exact wp_appendRoom hx hy hu hs hS hc hsrc hroom h
end
end Go.SL
