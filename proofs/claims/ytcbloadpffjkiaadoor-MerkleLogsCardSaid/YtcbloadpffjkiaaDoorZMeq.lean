/- Marks that are equal. -/
import Derived.Test.YtcbloadpffjkiaaDoorZLogs1
import Derived.Laws.StructEq
import Derived.ChangeKeysEq
namespace Go.Proofs.YtcbloadpffjkiaaDoor
open Go.Wk Go.Wl Go.Dsk

theorem mk_eqIn (x y : Mk) (w : World) : (Op.equalIn 10000 101 (.agg #[v64 x.1, v64 x.2]) (.agg #[v64 y.1, v64 y.2])).run Tryd.prog w = .ok (decide (x = y)) w := by
  rw [run_equalIn_struct w 9999 101 _ _ krX krX]
  have hl : (Tryd.prog.fieldsOf 101).toList = [(Tryd.prog.fieldsOf 101)[0]!, (Tryd.prog.fieldsOf 101)[1]!] := by kernel_rfl
  have t1 : ((Tryd.prog.fieldsOf 101)[0]!).type = 99 := by kernel_rfl
  have t2 : ((Tryd.prog.fieldsOf 101)[1]!).type = 99 := by kernel_rfl
  have o1 : ((Tryd.prog.fieldsOf 101)[0]!).offset = 0 := by kernel_rfl
  have o2 : ((Tryd.prog.fieldsOf 101)[1]!).offset = 1 := by kernel_rfl
  have n1 : ((Tryd.prog.fieldsOf 101)[0]!).name ≠ "_" := of_decide_eq_true krX
  have n2 : ((Tryd.prog.fieldsOf 101)[1]!).name ≠ "_" := of_decide_eq_true krX
  rw [hl]
  generalize (Tryd.prog.fieldsOf 101)[0]! = f1 at t1 o1 n1 ⊢
  generalize (Tryd.prog.fieldsOf 101)[1]! = f2 at t2 o2 n2 ⊢
  have p1 : ∀ a b : Value, (part 99 #[a, b] 0).run Tryd.prog w = .ok a w := fun a b => by simp [part, on99.agg w]
  have p2 : ∀ a b : Value, (part 99 #[a, b] 1).run Tryd.prog w = .ok b w := fun a b => by simp [part, on99.agg w]
  have he : decide (x = y) = (decide (x.1 = y.1) && decide (x.2 = y.2)) := by
    obtain ⟨a, b⟩ := x; obtain ⟨c, d⟩ := y; simp
  have q : ∀ a b : UInt64, (Op.equalIn 9999 99 (v64 a) (v64 b)).run Tryd.prog w = .ok (decide (a = b)) w := fun a b => by
    have e1 := run_equalIn_int (P := Tryd.prog) w 9998 99 .u64 .u64 (a.toNat : Int) (b.toNat : Int) krX
    rw [show v64 a = Value.int .u64 (a.toNat : Int) from rfl, show v64 b = Value.int .u64 (b.toNat : Int) from rfl, e1]; exact congrArg (fun b => Result.ok b w) (by by_cases e : a = b; (· simp [e]); (· have e2 : ¬ a.toNat = b.toNat := fun h => e (UInt64.toNat_inj.1 h); simp [e]; omega))
  simp only [Op.eqFields, if_pos n1, if_pos n2, t1, t2, o1, o2, Sem.run_bind, p1, Result.andThen_ok, q, he]
  have q2 := q x.2 y.2
  generalize decide (x.1 = y.1) = b1
  generalize hb2 : decide (x.2 = y.2) = b2
  rw [hb2] at q2
  cases b1 <;> cases b2 <;> simp [Sem.run_bind, p2, q2]
section
variable {n : Nat} {κ : World} {al : List (Nat × Value)} {L : List Assn} {o : Oper}
theorem V.neqMk {T2 : TypeId} {x y : Operand} {s s' : Mk} (ho : o.op = .binOp .neq 101 x y T2) (hx : ev al x = some (.agg [v64 s.1, v64 s.2].toArray)) (hy : ev al y = some (.agg [v64 s'.1, v64 s'.2].toArray)) : OpV Tryd.prog n κ al L o (.bool (decide (s ≠ s'))) := V.of_run fun a' w he => by
  have h3 := mk_eqIn s s' w
  have hg : Tryd.prog.eqGuardType Tryd.prog.depth 101 = false := by kernel_rfl
  have h4 := run_eqGuard_agg (P := Tryd.prog) w .neq 101 x y [v64 s.1, v64 s.2].toArray [v64 s'.1, v64 s'.2].toArray hg
  have h5 : (binOp .neq 101 (.agg [v64 s.1, v64 s.2].toArray) (.agg [v64 s'.1, v64 s'.2].toArray)).run Tryd.prog w = .ok (.bool (decide (s ≠ s'))) w := by
    rw [run_neq_struct, show [v64 s.1, v64 s.2].toArray = #[v64 s.1, v64 s.2] from rfl, show [v64 s'.1, v64 s'.2].toArray = #[v64 s'.1, v64 s'.2] from rfl, h3]
    by_cases e : s = s' <;> simp [e]
  simp only [execOp, ho, he.ev hx, he.ev hy, Sem.run_bind, h4, Result.andThen_ok, h5]
  rfl
theorem V.eqlMk {T2 : TypeId} {x y : Operand} {s s' : Mk} (ho : o.op = .binOp .eql 101 x y T2) (hx : ev al x = some (.agg [v64 s.1, v64 s.2].toArray)) (hy : ev al y = some (.agg [v64 s'.1, v64 s'.2].toArray)) : OpV Tryd.prog n κ al L o (.bool (decide (s = s'))) := V.of_run fun a' w he => by
  have h3 := mk_eqIn s s' w
  have hg : Tryd.prog.eqGuardType Tryd.prog.depth 101 = false := by kernel_rfl
  have h4 := run_eqGuard_agg (P := Tryd.prog) w .eql 101 x y [v64 s.1, v64 s.2].toArray [v64 s'.1, v64 s'.2].toArray hg
  have h5 : (binOp .eql 101 (.agg [v64 s.1, v64 s.2].toArray) (.agg [v64 s'.1, v64 s'.2].toArray)).run Tryd.prog w = .ok (.bool (decide (s = s'))) w := by
    rw [run_eql_struct, show [v64 s.1, v64 s.2].toArray = #[v64 s.1, v64 s.2] from rfl, show [v64 s'.1, v64 s'.2].toArray = #[v64 s'.1, v64 s'.2] from rfl, h3]
    rfl
  simp only [execOp, ho, he.ev hx, he.ev hy, Sem.run_bind, h4, Result.andThen_ok, h5]
  rfl
end
end Go.Proofs.YtcbloadpffjkiaaDoor
