/- Bringing a chunk to the front, putting it back, letting go of it. -/
import Derived.Test.YtjklnjpmjdbogaaSLOps
namespace Go.SL
section
variable {w : World} {I : Gh} {L : List Ch}
theorem Sat.up2 {c0 c1 c2 : Ch} (h : Sat w I (c0 :: c1 :: c2 :: L)) : Sat w I (c2 :: c0 :: c1 :: L) := h.perm (perm_pull (i := 2) rfl)
theorem Sat.dn2 {c0 c1 c2 : Ch} (h : Sat w I (c0 :: c1 :: c2 :: L)) : Sat w I (c1 :: c2 :: c0 :: L) := h.perm (perm_pull (i := 2) (L := c1 :: c2 :: c0 :: L) rfl).symm
theorem Sat.up3 {c0 c1 c2 c3 : Ch} (h : Sat w I (c0 :: c1 :: c2 :: c3 :: L)) : Sat w I (c3 :: c0 :: c1 :: c2 :: L) := h.perm (perm_pull (i := 3) rfl)
theorem Sat.dn3 {c0 c1 c2 c3 : Ch} (h : Sat w I (c0 :: c1 :: c2 :: c3 :: L)) : Sat w I (c1 :: c2 :: c3 :: c0 :: L) := h.perm (perm_pull (i := 3) (L := c1 :: c2 :: c3 :: c0 :: L) rfl).symm
theorem Sat.up4 {c0 c1 c2 c3 c4 : Ch} (h : Sat w I (c0 :: c1 :: c2 :: c3 :: c4 :: L)) : Sat w I (c4 :: c0 :: c1 :: c2 :: c3 :: L) := h.perm (perm_pull (i := 4) rfl)
theorem Sat.dn4 {c0 c1 c2 c3 c4 : Ch} (h : Sat w I (c0 :: c1 :: c2 :: c3 :: c4 :: L)) : Sat w I (c1 :: c2 :: c3 :: c4 :: c0 :: L) := h.perm (perm_pull (i := 4) (L := c1 :: c2 :: c3 :: c4 :: c0 :: L) rfl).symm
theorem Sat.up5 {c0 c1 c2 c3 c4 c5 : Ch} (h : Sat w I (c0 :: c1 :: c2 :: c3 :: c4 :: c5 :: L)) : Sat w I (c5 :: c0 :: c1 :: c2 :: c3 :: c4 :: L) := h.perm (perm_pull (i := 5) rfl)
theorem Sat.dn5 {c0 c1 c2 c3 c4 c5 : Ch} (h : Sat w I (c0 :: c1 :: c2 :: c3 :: c4 :: c5 :: L)) : Sat w I (c1 :: c2 :: c3 :: c4 :: c5 :: c0 :: L) := h.perm (perm_pull (i := 5) (L := c1 :: c2 :: c3 :: c4 :: c5 :: c0 :: L) rfl).symm
theorem Sat.up6 {c0 c1 c2 c3 c4 c5 c6 : Ch} (h : Sat w I (c0 :: c1 :: c2 :: c3 :: c4 :: c5 :: c6 :: L)) : Sat w I (c6 :: c0 :: c1 :: c2 :: c3 :: c4 :: c5 :: L) := h.perm (perm_pull (i := 6) rfl)
theorem Sat.dn6 {c0 c1 c2 c3 c4 c5 c6 : Ch} (h : Sat w I (c0 :: c1 :: c2 :: c3 :: c4 :: c5 :: c6 :: L)) : Sat w I (c1 :: c2 :: c3 :: c4 :: c5 :: c6 :: c0 :: L) := h.perm (perm_pull (i := 6) (L := c1 :: c2 :: c3 :: c4 :: c5 :: c6 :: c0 :: L) rfl).symm
theorem Sat.up7 {c0 c1 c2 c3 c4 c5 c6 c7 : Ch} (h : Sat w I (c0 :: c1 :: c2 :: c3 :: c4 :: c5 :: c6 :: c7 :: L)) : Sat w I (c7 :: c0 :: c1 :: c2 :: c3 :: c4 :: c5 :: c6 :: L) := h.perm (perm_pull (i := 7) rfl)
theorem Sat.dn7 {c0 c1 c2 c3 c4 c5 c6 c7 : Ch} (h : Sat w I (c0 :: c1 :: c2 :: c3 :: c4 :: c5 :: c6 :: c7 :: L)) : Sat w I (c1 :: c2 :: c3 :: c4 :: c5 :: c6 :: c7 :: c0 :: L) := h.perm (perm_pull (i := 7) (L := c1 :: c2 :: c3 :: c4 :: c5 :: c6 :: c7 :: c0 :: L) rfl).symm
theorem Sat.up8 {c0 c1 c2 c3 c4 c5 c6 c7 c8 : Ch} (h : Sat w I (c0 :: c1 :: c2 :: c3 :: c4 :: c5 :: c6 :: c7 :: c8 :: L)) : Sat w I (c8 :: c0 :: c1 :: c2 :: c3 :: c4 :: c5 :: c6 :: c7 :: L) := h.perm (perm_pull (i := 8) rfl)
theorem Sat.dn8 {c0 c1 c2 c3 c4 c5 c6 c7 c8 : Ch} (h : Sat w I (c0 :: c1 :: c2 :: c3 :: c4 :: c5 :: c6 :: c7 :: c8 :: L)) : Sat w I (c1 :: c2 :: c3 :: c4 :: c5 :: c6 :: c7 :: c8 :: c0 :: L) := h.perm (perm_pull (i := 8) (L := c1 :: c2 :: c3 :: c4 :: c5 :: c6 :: c7 :: c8 :: c0 :: L) rfl).symm
theorem Sat.up9 {c0 c1 c2 c3 c4 c5 c6 c7 c8 c9 : Ch} (h : Sat w I (c0 :: c1 :: c2 :: c3 :: c4 :: c5 :: c6 :: c7 :: c8 :: c9 :: L)) : Sat w I (c9 :: c0 :: c1 :: c2 :: c3 :: c4 :: c5 :: c6 :: c7 :: c8 :: L) := h.perm (perm_pull (i := 9) rfl)
theorem Sat.dn9 {c0 c1 c2 c3 c4 c5 c6 c7 c8 c9 : Ch} (h : Sat w I (c0 :: c1 :: c2 :: c3 :: c4 :: c5 :: c6 :: c7 :: c8 :: c9 :: L)) : Sat w I (c1 :: c2 :: c3 :: c4 :: c5 :: c6 :: c7 :: c8 :: c9 :: c0 :: L) := h.perm (perm_pull (i := 9) (L := c1 :: c2 :: c3 :: c4 :: c5 :: c6 :: c7 :: c8 :: c9 :: c0 :: L) rfl).symm
theorem Sat.up10 {c0 c1 c2 c3 c4 c5 c6 c7 c8 c9 c10 : Ch} (h : Sat w I (c0 :: c1 :: c2 :: c3 :: c4 :: c5 :: c6 :: c7 :: c8 :: c9 :: c10 :: L)) : Sat w I (c10 :: c0 :: c1 :: c2 :: c3 :: c4 :: c5 :: c6 :: c7 :: c8 :: c9 :: L) := h.perm (perm_pull (i := 10) rfl)
theorem Sat.dn10 {c0 c1 c2 c3 c4 c5 c6 c7 c8 c9 c10 : Ch} (h : Sat w I (c0 :: c1 :: c2 :: c3 :: c4 :: c5 :: c6 :: c7 :: c8 :: c9 :: c10 :: L)) : Sat w I (c1 :: c2 :: c3 :: c4 :: c5 :: c6 :: c7 :: c8 :: c9 :: c10 :: c0 :: L) := h.perm (perm_pull (i := 10) (L := c1 :: c2 :: c3 :: c4 :: c5 :: c6 :: c7 :: c8 :: c9 :: c10 :: c0 :: L) rfl).symm
theorem Sat.del1 {c0 c1 : Ch} (h : Sat w I (c0 :: c1 :: L)) : Sat w I (c0 :: L) := (h.perm (perm_pull (i := 1) rfl)).drop
theorem Sat.del2 {c0 c1 c2 : Ch} (h : Sat w I (c0 :: c1 :: c2 :: L)) : Sat w I (c0 :: c1 :: L) := (h.perm (perm_pull (i := 2) rfl)).drop
theorem Sat.del3 {c0 c1 c2 c3 : Ch} (h : Sat w I (c0 :: c1 :: c2 :: c3 :: L)) : Sat w I (c0 :: c1 :: c2 :: L) := (h.perm (perm_pull (i := 3) rfl)).drop
theorem Sat.del4 {c0 c1 c2 c3 c4 : Ch} (h : Sat w I (c0 :: c1 :: c2 :: c3 :: c4 :: L)) : Sat w I (c0 :: c1 :: c2 :: c3 :: L) := (h.perm (perm_pull (i := 4) rfl)).drop
theorem Sat.del5 {c0 c1 c2 c3 c4 c5 : Ch} (h : Sat w I (c0 :: c1 :: c2 :: c3 :: c4 :: c5 :: L)) : Sat w I (c0 :: c1 :: c2 :: c3 :: c4 :: L) := (h.perm (perm_pull (i := 5) rfl)).drop
theorem Sat.del6 {c0 c1 c2 c3 c4 c5 c6 : Ch} (h : Sat w I (c0 :: c1 :: c2 :: c3 :: c4 :: c5 :: c6 :: L)) : Sat w I (c0 :: c1 :: c2 :: c3 :: c4 :: c5 :: L) := (h.perm (perm_pull (i := 6) rfl)).drop
theorem Sat.del7 {c0 c1 c2 c3 c4 c5 c6 c7 : Ch} (h : Sat w I (c0 :: c1 :: c2 :: c3 :: c4 :: c5 :: c6 :: c7 :: L)) : Sat w I (c0 :: c1 :: c2 :: c3 :: c4 :: c5 :: c6 :: L) := (h.perm (perm_pull (i := 7) rfl)).drop
theorem Sat.del8 {c0 c1 c2 c3 c4 c5 c6 c7 c8 : Ch} (h : Sat w I (c0 :: c1 :: c2 :: c3 :: c4 :: c5 :: c6 :: c7 :: c8 :: L)) : Sat w I (c0 :: c1 :: c2 :: c3 :: c4 :: c5 :: c6 :: c7 :: L) := (h.perm (perm_pull (i := 8) rfl)).drop
end
end Go.SL
