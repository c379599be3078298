/- Function values with captured cells: how they are made and called. -/
import Derived.Test.YtcbloadpffjkiaaDoorKernB
namespace Go.Wk
section
variable {P : Program} {n : Nat} {κ : World} {al : List (Nat × Value)} {L : List Assn} {o : Oper}
/-- A function value that captures what lies in these slots. -/
theorem V.makeFunc {f : FuncId} {cs : Array Operand} {vs : List Value} (ho : o.op = .makeFunc (.func f) #[] cs) (hx : evs al cs.toList = some vs) : OpV P n κ al L o (.func (.func f) #[] vs.toArray) := V.of_run fun a w he => by
  have hm : cs.map a.eval = vs.toArray := by
    rw [← he.evs hx]; apply Array.ext'; simp
  simp [execOp, ho, Instr.makeFunc, hm]
/-- A call of such a value: what was captured comes behind the arguments. -/
theorem E.callC {f : FuncId} {xs : Array Operand} {ts : Array TypeId} {vs cap : List Value} {K : Post} {x : Operand} (ho : o.op = .call ⟨.value x, xs, ts⟩) (hfx : ev al x = some (.func (.func f) #[] cap.toArray)) (hf : IsGo P f) (hx : evs al xs.toList = some vs) (hc : Ctr P f (vs ++ cap).toArray κ L K) : OpE P n κ al L o K := fun a w he hs => by
  have hm : xs.map a.eval = vs.toArray := by
    rw [← he.evs hx]; apply Array.ext'; simp
  have hr : (execOp a.eval o).run P w = .ok (.enter f (vs ++ cap).toArray) w := by
    simp [execOp, ho, resolve, he.ev hfx, Deferred.ofValue, invoke, hm, run_callFunc hf]
  unfold Oper.wp
  rw [hr]
  refine Calls.mono (hc w hs) ?_
  rintro e w' ⟨v, rfl, hK⟩
  exact ⟨v, rfl, hK⟩
end
end Go.Wk
