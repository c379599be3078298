/- Slots that are equal. -/
import Derived.Test.YtilcnglcflohoaaLawp
namespace Go.Proofs.Ytilcnglcflohoaa
open Go.Wk Go.Rp

theorem slot_eqIn (x y : Slot) (w : World) : (Op.equalIn 10000 53 (.agg #[vI x.term, vS x.data]) (.agg #[vI y.term, vS y.data])).run Try.prog w = .ok (decide (x = y)) w := by
  rw [run_equalIn_struct w 9999 53 _ _ krX krX]
  have hl : (Try.prog.fieldsOf 53).toList = [(Try.prog.fieldsOf 53)[0]!, (Try.prog.fieldsOf 53)[1]!] := by kernel_rfl
  have t1 : ((Try.prog.fieldsOf 53)[0]!).type = 3 := by kernel_rfl
  have t2 : ((Try.prog.fieldsOf 53)[1]!).type = 9 := by kernel_rfl
  have o1 : ((Try.prog.fieldsOf 53)[0]!).offset = 0 := by kernel_rfl
  have o2 : ((Try.prog.fieldsOf 53)[1]!).offset = 1 := by kernel_rfl
  have n1 : ((Try.prog.fieldsOf 53)[0]!).name ≠ "_" := of_decide_eq_true krX
  have n2 : ((Try.prog.fieldsOf 53)[1]!).name ≠ "_" := of_decide_eq_true krX
  rw [hl]
  generalize (Try.prog.fieldsOf 53)[0]! = f1 at t1 o1 n1 ⊢
  generalize (Try.prog.fieldsOf 53)[1]! = f2 at t2 o2 n2 ⊢
  have p1 : ∀ a b : Value, (part 3 #[a, b] 0).run Try.prog w = .ok a w := fun a b => by simp [part, on3.agg w]
  have p2 : ∀ a b : Value, (part 9 #[a, b] 1).run Try.prog w = .ok b w := fun a b => by simp [part, on9.agg w]
  have e1 := run_equalIn_int (P := Try.prog) w 9998 3 .i64 .i64 x.term y.term krX
  have e2 := run_equalIn_string (P := Try.prog) w 9998 9 ⟨⟨x.data⟩⟩ ⟨⟨y.data⟩⟩ krX
  have he : decide (x = y) = (decide (x.term = y.term) && decide (x.data = y.data)) := by
    obtain ⟨a, b⟩ := x; obtain ⟨c, d⟩ := y; simp
  have q1 : (Op.equalIn 9999 3 (vI x.term) (vI y.term)).run Try.prog w = .ok (decide (x.term = y.term)) w := by
    rw [show vI x.term = Value.int .i64 x.term from rfl, show vI y.term = Value.int .i64 y.term from rfl, e1]; exact congrArg (fun b => Result.ok b w) (by by_cases e : x.term = y.term <;> simp [e])
  have q2 : (Op.equalIn 9999 9 (vS x.data) (vS y.data)).run Try.prog w = .ok (decide (x.data = y.data)) w := by
    rw [show vS x.data = Value.string ⟨⟨x.data⟩⟩ from rfl, show vS y.data = Value.string ⟨⟨y.data⟩⟩ from rfl, e2, ByteArray.toList_eq, ByteArray.toList_eq]
    refine congrArg (fun b => Result.ok b w) ?_
    by_cases e : x.data = y.data <;> simp [e]
  simp only [Op.eqFields, if_pos n1, if_pos n2, t1, t2, o1, o2, Sem.run_bind, p1, Result.andThen_ok, q1, he]
  generalize decide (x.term = y.term) = b1
  generalize hb2 : decide (x.data = y.data) = b2
  rw [hb2] at q2
  cases b1 <;> cases b2 <;> simp [Sem.run_bind, p2, q2]
section
variable {n : Nat} {κ : World} {al : List (Nat × Value)} {L : List Assn} {o : Oper}
theorem V.neqSlot {T2 : TypeId} {x y : Operand} {s s' : Slot} (ho : o.op = .binOp .neq 53 x y T2) (hx : ev al x = some (.agg [vI s.term, vS s.data].toArray)) (hy : ev al y = some (.agg [vI s'.term, vS s'.data].toArray)) : OpV Try.prog n κ al L o (.bool (decide (s ≠ s'))) := V.of_run fun a' w he => by
  have h3 := slot_eqIn s s' w
  have hg : Try.prog.eqGuardType Try.prog.depth 53 = false := by kernel_rfl
  have h4 := run_eqGuard_agg (P := Try.prog) w .neq 53 x y [vI s.term, vS s.data].toArray [vI s'.term, vS s'.data].toArray hg
  have h5 : (binOp .neq 53 (.agg [vI s.term, vS s.data].toArray) (.agg [vI s'.term, vS s'.data].toArray)).run Try.prog w = .ok (.bool (decide (s ≠ s'))) w := by
    rw [run_neq_struct, show [vI s.term, vS s.data].toArray = #[vI s.term, vS s.data] from rfl, show [vI s'.term, vS s'.data].toArray = #[vI s'.term, vS s'.data] from rfl, h3]
    by_cases e : s = s' <;> simp [e]
  simp only [execOp, ho, he.ev hx, he.ev hy, Sem.run_bind, h4, Result.andThen_ok, h5]
  rfl
theorem V.eqlSlot {T2 : TypeId} {x y : Operand} {s s' : Slot} (ho : o.op = .binOp .eql 53 x y T2) (hx : ev al x = some (.agg [vI s.term, vS s.data].toArray)) (hy : ev al y = some (.agg [vI s'.term, vS s'.data].toArray)) : OpV Try.prog n κ al L o (.bool (decide (s = s'))) := V.of_run fun a' w he => by
  have h3 := slot_eqIn s s' w
  have hg : Try.prog.eqGuardType Try.prog.depth 53 = false := by kernel_rfl
  have h4 := run_eqGuard_agg (P := Try.prog) w .eql 53 x y [vI s.term, vS s.data].toArray [vI s'.term, vS s'.data].toArray hg
  have h5 : (binOp .eql 53 (.agg [vI s.term, vS s.data].toArray) (.agg [vI s'.term, vS s'.data].toArray)).run Try.prog w = .ok (.bool (decide (s = s'))) w := by
    rw [run_eql_struct, show [vI s.term, vS s.data].toArray = #[vI s.term, vS s.data] from rfl, show [vI s'.term, vS s'.data].toArray = #[vI s'.term, vS s'.data] from rfl, h3]
    rfl
  simp only [execOp, ho, he.ev hx, he.ev hy, Sem.run_bind, h4, Result.andThen_ok, h5]
  rfl
end

end Go.Proofs.Ytilcnglcflohoaa
