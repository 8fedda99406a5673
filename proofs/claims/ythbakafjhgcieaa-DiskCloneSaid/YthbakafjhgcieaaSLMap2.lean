/- Maps: comparison with nil, cloning. -/
import Derived.Test.YthbakafjhgcieaaSLMap
import Derived.Test.YthbakafjhgcieaaSLMore2
import Derived.Laws.Externs
import Derived.MapKept
namespace Go.SL
open Go.RowKit
section
variable {P : Program} {w w' : World} {I J : Gh} {L M : List Ch} {b b' m : Nat} {E : TypeId} {cs xs ys : List Value} {v u : Value} {n k sz : Nat} {p : Addr}
variable {a : Act} {K : Act → World → Prop} {Q : Exit → Act → World → Prop} {dst : Option Tmp} {x y z : Operand} {t ty : TypeId} {pos : String} {af : Array Edge} {gd : Option (Nat × Bool)}
theorem equalIn_mapNil (d : Nat) {kt e : TypeId} {q : Option Nat} (h : P.underlying t = some (.map kt e)) : (Op.equalIn (d + 1) t (.map q) (.map none)).run P w = .ok q.isNone w := by
  cases q <;> simp [Op.equalIn, run_underlying h]
theorem equal_mapNil {kt e : TypeId} {q : Option Nat} (h : P.underlying t = some (.map kt e)) : (Op.equal t (.map q) (.map none)).run P w = .ok q.isNone w := equalIn_mapNil 9999 h
theorem ex_eqlMapNil {kt e : TypeId} {q : Option Nat} {yt : TypeId} (hx : a.eval x = .map q) (hy : a.eval y = .map none) (hu : P.underlying t = some (.map kt e)) : Ex P a ⟨dst, .binOp .eql t x y yt, ty, pos, af, gd⟩ w (.bool q.isNone) := by
  unfold Ex execOp
  simp [eqGuard, hx, hy, binOp, equal_mapNil hu]
theorem ex_makeIfaceMap {kt e : TypeId} (hx : a.eval x = v) (hu : P.underlying t = some (.map kt e)) : Ex P a ⟨dst, .makeInterface t x, ty, pos, af, gd⟩ w (.iface t v) := by
  unfold Ex execOp
  simp [hx, Instr.makeInterface, run_underlying hu]
theorem ex_typeAssertMap {kt e xt : TypeId} (hx : a.eval x = .iface t v) (hu : P.underlying t = some (.map kt e)) : Ex P a ⟨dst, .typeAssert x xt t false, ty, pos, af, gd⟩ w v := by
  unfold Ex execOp
  simp [hx, Instr.typeAssert, run_underlying hu]
/-- A function that the model's table stands in for. -/
def externB (P : Program) (f : FuncId) (nm : String) : Bool := match P.funcs[f]? with | some fn => fn.name == nm && fn.body.isNone && fn.name != "runtime.NumGoroutine" && (Extern.findNext fn).isNone | none => false
theorem wp_mapsClone {f : FuncId} {fn : Func} {ats : Array TypeId} {kv : List (Int × Value)} {rep : Ch → List Ch} (hx : a.eval x = .iface t (.map (some m))) (hf : P.funcs[f]? = some fn) (h1 : (fn.name == "runtime.NumGoroutine") = false) (h2 : fn.body.isNone = true)
    (h3 : Extern.findNext fn = none) (h4 : Extern.find fn = some Extern.MapsClone.clone) (hS : Sat w I L) [hi : HasMap L m kv rep]
    (h : ∀ m' w', Sat w' I (MapI m' kv :: L) → K (a.put dst (.iface t (.map (some m')))) w') : Oper.wp P ⟨dst, .call ⟨.value (.func f), #[x], ats⟩, ty, pos, af, gd⟩ a w K Q := by
  obtain ⟨i, hi, e⟩ := hi.has
  obtain ⟨es, clock, hh, hb, he, hn, hbn, hlt⟩ := (hS.pull i hi).map0
  have e1 : Extern.MapsClone.clone #[.iface t (.map (some m))] = (getObj m >>= fun o => match o with
      | .map entries clock => (newObj (.map entries clock) >>= fun n => pure (.iface t (.map (some n))))
      | _ => stuck "maps.clone: a map expected") := rfl
  have hrun : (execOp a.eval ⟨dst, .call ⟨.value (.func f), #[x], ats⟩, ty, pos, af, gd⟩).run P w = .ok (.value (.iface t (.map (some w.heap.size)))) (w.alloc (.map es clock)) := by
    have h5 := run_callFunc_extern (P := P) hf h1 h2 h3 h4 #[.iface t (.map (some m))] w
    have h6 : (callFunc f #[.iface t (.map (some m))]).run P w = .ok (.value (.iface t (.map (some w.heap.size)))) (w.alloc (.map es clock)) := by
      rw [h5, e1]
      simp [MapKept.run_getObj_map hh, Result.andThen, go_sem]
    simp [execOp, resolve, Deferred.ofValue, invoke, hx, show a.eval (.func f) = Value.func (.func f) #[] #[] from rfl, h6]
  unfold Oper.wp
  rw [hrun]
  refine h _ _ ?_
  have h7 := hS.alloc (.map es clock)
  exact h7.head fun f hf => ⟨es, clock, hf, he, hn, hbn, hlt⟩
end
end Go.SL
