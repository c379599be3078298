/- Less. -/
import Derived.Test.YteopejoppdgncaaDoorBasic
import Derived.Laws.StructEq
import Derived.ChangeKeysEq
namespace Go.Proofs.YteopejoppdgncaaDoor
open Go.Wk Go.Lb

theorem lab_eqIn (x y : Lab) (w : World) : (Op.equalIn 10000 23 (.agg #[vI x.num, vI x.suf]) (.agg #[vI y.num, vI y.suf])).run Tryd.prog w = .ok (decide (x = y)) w := by
  rw [run_equalIn_struct w 9999 23 _ _ krX krX]
  have hl : (Tryd.prog.fieldsOf 23).toList = [(Tryd.prog.fieldsOf 23)[0]!, (Tryd.prog.fieldsOf 23)[1]!] := by kernel_rfl
  have t1 : ((Tryd.prog.fieldsOf 23)[0]!).type = 3 := by kernel_rfl
  have t2 : ((Tryd.prog.fieldsOf 23)[1]!).type = 3 := by kernel_rfl
  have o1 : ((Tryd.prog.fieldsOf 23)[0]!).offset = 0 := by kernel_rfl
  have o2 : ((Tryd.prog.fieldsOf 23)[1]!).offset = 1 := by kernel_rfl
  have n1 : ((Tryd.prog.fieldsOf 23)[0]!).name ≠ "_" := of_decide_eq_true krX
  have n2 : ((Tryd.prog.fieldsOf 23)[1]!).name ≠ "_" := of_decide_eq_true krX
  rw [hl]
  generalize (Tryd.prog.fieldsOf 23)[0]! = f1 at t1 o1 n1 ⊢
  generalize (Tryd.prog.fieldsOf 23)[1]! = f2 at t2 o2 n2 ⊢
  have p1 : ∀ a b : Value, (part 3 #[a, b] 0).run Tryd.prog w = .ok a w := fun a b => by simp [part, on3.agg w]
  have p2 : ∀ a b : Value, (part 3 #[a, b] 1).run Tryd.prog w = .ok b w := fun a b => by simp [part, on3.agg w]
  have he : decide (x = y) = (decide (x.num = y.num) && decide (x.suf = y.suf)) := by
    obtain ⟨a, b⟩ := x; obtain ⟨c, d⟩ := y; simp
  have q : ∀ a b : Int, (Op.equalIn 9999 3 (vI a) (vI b)).run Tryd.prog w = .ok (decide (a = b)) w := fun a b => by
    have e1 := run_equalIn_int (P := Tryd.prog) w 9998 3 .i64 .i64 a b krX
    rw [show vI a = Value.int .i64 a from rfl, show vI b = Value.int .i64 b from rfl, e1]; exact congrArg (fun b => Result.ok b w) (by by_cases e : a = b <;> simp [e])
  simp only [Op.eqFields, if_pos n1, if_pos n2, t1, t2, o1, o2, Sem.run_bind, p1, Result.andThen_ok, q, he]
  have q2 := q x.suf y.suf
  generalize decide (x.num = y.num) = b1
  generalize hb2 : decide (x.suf = y.suf) = b2
  rw [hb2] at q2
  cases b1 <;> cases b2 <;> simp [Sem.run_bind, p2, q2]
section
variable {n : Nat} {κ : World} {al : List (Nat × Value)} {L : List Assn} {o : Oper}
theorem V.neqLab {T2 : TypeId} {x y : Operand} {s s' : Lab} (ho : o.op = .binOp .neq 23 x y T2) (hx : ev al x = some (.agg [vI s.num, vI s.suf].toArray)) (hy : ev al y = some (.agg [vI s'.num, vI s'.suf].toArray)) : OpV Tryd.prog n κ al L o (.bool (decide (s ≠ s'))) := V.of_run fun a' w he => by
  have h3 := lab_eqIn s s' w
  have hg : Tryd.prog.eqGuardType Tryd.prog.depth 23 = false := by kernel_rfl
  have h4 := run_eqGuard_agg (P := Tryd.prog) w .neq 23 x y [vI s.num, vI s.suf].toArray [vI s'.num, vI s'.suf].toArray hg
  have h5 : (binOp .neq 23 (.agg [vI s.num, vI s.suf].toArray) (.agg [vI s'.num, vI s'.suf].toArray)).run Tryd.prog w = .ok (.bool (decide (s ≠ s'))) w := by
    rw [run_neq_struct, show [vI s.num, vI s.suf].toArray = #[vI s.num, vI s.suf] from rfl, show [vI s'.num, vI s'.suf].toArray = #[vI s'.num, vI s'.suf] from rfl, h3]
    by_cases e : s = s' <;> simp [e]
  simp only [execOp, ho, he.ev hx, he.ev hy, Sem.run_bind, h4, Result.andThen_ok, h5]
  rfl
theorem V.eqlLab {T2 : TypeId} {x y : Operand} {s s' : Lab} (ho : o.op = .binOp .eql 23 x y T2) (hx : ev al x = some (.agg [vI s.num, vI s.suf].toArray)) (hy : ev al y = some (.agg [vI s'.num, vI s'.suf].toArray)) : OpV Tryd.prog n κ al L o (.bool (decide (s = s'))) := V.of_run fun a' w he => by
  have h3 := lab_eqIn s s' w
  have hg : Tryd.prog.eqGuardType Tryd.prog.depth 23 = false := by kernel_rfl
  have h4 := run_eqGuard_agg (P := Tryd.prog) w .eql 23 x y [vI s.num, vI s.suf].toArray [vI s'.num, vI s'.suf].toArray hg
  have h5 : (binOp .eql 23 (.agg [vI s.num, vI s.suf].toArray) (.agg [vI s'.num, vI s'.suf].toArray)).run Tryd.prog w = .ok (.bool (decide (s = s'))) w := by
    rw [run_eql_struct, show [vI s.num, vI s.suf].toArray = #[vI s.num, vI s.suf] from rfl, show [vI s'.num, vI s'.suf].toArray = #[vI s'.num, vI s'.suf] from rfl, h3]
    rfl
  simp only [execOp, ho, he.ev hx, he.ev hy, Sem.run_bind, h4, Result.andThen_ok, h5]
  rfl
end
set_option maxRecDepth 100000 in
theorem lLess_ok {κ : World} {L : List Assn} {a b : Lab} :
    Ctr Tryd.prog 22 #[(.agg ([vI a.num, vI a.suf] : List Value).toArray), (.agg ([vI b.num, vI b.suf] : List Value).toArray)] κ L (fun v M => v = vB (decide (before a b)) ∧ M = L) := by
 refine Ctr.enter (vs := [(.agg ([vI a.num, vI a.suf] : List Value).toArray), (.agg ([vI b.num, vI b.suf] : List Value).toArray)]) (m := 23) Tryd.func22 rfl rfl rfl ?_
 refine SG.seq ?_
 refine SG.region ?_
 refine RL.eff (Wanted.free rfl) (E.box _ rfl rfl rfl) rfl ?_
 rintro _ _ ⟨b2, rfl, rfl⟩
 refine RL.eff (Wanted.free rfl) (E.box _ rfl rfl rfl) rfl ?_
 rintro _ _ ⟨b3, rfl, rfl⟩
 refine RL.val (Wanted.free rfl) (V.assign rfl rfl) rfl ?_
 refine RL.nil ?_
 refine SG.seq ?_
 refine SG.drawL 19 19 wide rfl rfl ?_
 refine RH.val 0 rfl krX krX krX krX (Wanted.free rfl) (V.loadAgg (us := [vI a.num, vI a.suf]) rfl ag23 rfl pickX rfl rfl) rfl ?_
 refine RH.val 1 rfl krX krX krX krX (Wanted.free rfl) (V.loadAgg (us := [vI b.num, vI b.suf]) rfl ag23 rfl pickX rfl rfl) rfl ?_
 refine RH.cmp 2 rfl krX krX krX krX (Wanted.free rfl) (V.neqLab (s := a) (s' := b) rfl rfl rfl) rfl (fun h6 => ?_) (fun h6 => ?_)
 ·
  have hne : a ≠ b := h6
  refine RH.val 3 rfl krX krX krX krX (Wanted.free rfl) (V.move rfl rfl) rfl ?_
  refine RH.val 4 rfl krX krX krX krX (Wanted.yes rfl rfl rfl rfl) (V.fieldAddr rfl rfl fo23_0) rfl ?_
  refine RH.val 5 rfl krX krX krX krX (Wanted.yes rfl rfl rfl rfl) (V.load rfl on3 rfl pickX rfl) rfl ?_
  refine RH.val 6 rfl krX krX krX krX (Wanted.yes rfl rfl rfl rfl) (V.fieldAddr rfl rfl fo23_0) rfl ?_
  refine RH.val 7 rfl krX krX krX krX (Wanted.yes rfl rfl rfl rfl) (V.load rfl on3 rfl pickX rfl) rfl ?_
  refine RH.val 9 rfl krX krX krX krX (Wanted.yes rfl rfl rfl rfl) (V.fieldAddr rfl rfl fo23_1) rfl ?_
  refine RH.val 10 rfl krX krX krX krX (Wanted.yes rfl rfl rfl rfl) (V.load rfl on3 rfl pickX rfl) rfl ?_
  refine RH.val 11 rfl krX krX krX krX (Wanted.yes rfl rfl rfl rfl) (V.fieldAddr rfl rfl fo23_1) rfl ?_
  refine RH.val 12 rfl krX krX krX krX (Wanted.yes rfl rfl rfl rfl) (V.load rfl on3 rfl pickX rfl) rfl ?_
  refine RH.one (i := 8) krX ?_
  refine RHone.eff rfl (Wanted.yes rfl rfl rfl rfl) (E.call rfl go36 rfl (cmp_ok)) rfl ?_
  rintro _ _ ⟨rfl, rfl⟩
  refine ⟨.inr entX, ?_⟩
  refine RH.one (i := 13) krX ?_
  refine RHone.eff rfl (Wanted.yes rfl rfl rfl rfl) (E.call rfl go36 rfl (cmp_ok)) rfl ?_
  rintro _ _ ⟨rfl, rfl⟩
  refine ⟨.inr entX, ?_⟩
  refine RH.one (i := 14) krX ?_
  refine RHone.eff rfl (Wanted.yes rfl rfl rfl rfl) (E.litN (xs := [.tmp 13, .tmp 18]) rfl rfl rfl el44.slice ze3 rfl (by decide) (by decide) rfl (by simp [Value.cells])) rfl ?_
  rintro _ _ ⟨b19, rfl, rfl⟩
  refine ⟨.inr entX, ?_⟩
  refine RH.ent (Buf.of_els (T := RI) (b := b19) (e := 3) (m := 2) (l := [cmpV a.num b.num, cmpV a.suf b.suf]) Pick.here rfl rfl (by decide) (fun _ _ _ => rows_sc.2 ⟨rfl, fun w hw => by simp only [List.mem_cons, List.not_mem_nil, or_false] at hw; rcases hw with rfl | rfl <;> exact cmp_in _ _⟩)) ?_
  refine RH.publish (T := RI) (a := some ⟨b19, 0, none⟩) Pick.here ?_
  refine RH.one (i := 15) krX ?_
  refine RHone.eff rfl (Wanted.yes rfl rfl rfl rfl) (E.call rfl go35 rfl (or_ok memX)) rfl ?_
  rintro _ _ ⟨rfl, rfl⟩
  refine ⟨.inr entX, ?_⟩
  refine RH.cmp 16 rfl krX krX krX krX (Wanted.yes rfl rfl rfl rfl) (V.bin rfl rfl rfl B.lss) rfl (fun h20 => ?_) (fun h20 => ?_)
  ·
   have hlt := h20
   refine RH.pure 17 rfl krX krX krX krX (Wanted.free rfl) (V.pick_true rfl rfl rfl) rfl ?_
   refine RH.val 18 rfl krX krX krX krX (Wanted.free rfl) (V.assign rfl rfl) rfl ?_
   refine RH.done krX ?_
   refine SG.retE (Ret.r1 Tryd.func22 rfl (.tmp rfl)) ?_ ⟨by rw [← less_eq]; first | (rw [decide_eq_false hne]; rfl) | (rw [decide_eq_true hne, decide_eq_true hlt]; rfl) | (rw [decide_eq_true hne, decide_eq_false hlt]; rfl), rfl⟩
   exact entX
  ·
   have hlt := h20
   refine RH.pure 17 rfl krX krX krX krX (Wanted.free rfl) (V.pick_true rfl rfl rfl) rfl ?_
   refine RH.val 18 rfl krX krX krX krX (Wanted.free rfl) (V.assign rfl rfl) rfl ?_
   refine RH.done krX ?_
   refine SG.retE (Ret.r1 Tryd.func22 rfl (.tmp rfl)) ?_ ⟨by rw [← less_eq]; first | (rw [decide_eq_false hne]; rfl) | (rw [decide_eq_true hne, decide_eq_true hlt]; rfl) | (rw [decide_eq_true hne, decide_eq_false hlt]; rfl), rfl⟩
   exact entX
 ·
  have hne : ¬ a ≠ b := h6
  refine RH.val 3 rfl krX krX krX krX (Wanted.free rfl) (V.move rfl rfl) rfl ?_
  refine RH.skip 4 rfl krX krX krX krX (Wanted.no rfl rfl rfl rfl rfl) rfl ?_
  refine RH.skip 5 rfl krX krX krX krX (Wanted.no rfl rfl rfl rfl rfl) rfl ?_
  refine RH.skip 6 rfl krX krX krX krX (Wanted.no rfl rfl rfl rfl rfl) rfl ?_
  refine RH.skip 7 rfl krX krX krX krX (Wanted.no rfl rfl rfl rfl rfl) rfl ?_
  refine RH.skip 8 rfl krX krX krX krX (Wanted.no rfl rfl rfl rfl rfl) rfl ?_
  refine RH.skip 9 rfl krX krX krX krX (Wanted.no rfl rfl rfl rfl rfl) rfl ?_
  refine RH.skip 10 rfl krX krX krX krX (Wanted.no rfl rfl rfl rfl rfl) rfl ?_
  refine RH.skip 11 rfl krX krX krX krX (Wanted.no rfl rfl rfl rfl rfl) rfl ?_
  refine RH.skip 12 rfl krX krX krX krX (Wanted.no rfl rfl rfl rfl rfl) rfl ?_
  refine RH.skip 13 rfl krX krX krX krX (Wanted.no rfl rfl rfl rfl rfl) rfl ?_
  refine RH.skip 14 rfl krX krX krX krX (Wanted.no rfl rfl rfl rfl rfl) rfl ?_
  refine RH.skip 15 rfl krX krX krX krX (Wanted.no rfl rfl rfl rfl rfl) rfl ?_
  refine RH.skip 16 rfl krX krX krX krX (Wanted.no rfl rfl rfl rfl rfl) rfl ?_
  refine RH.pure 17 rfl krX krX krX krX (Wanted.free rfl) (V.pick_false rfl rfl rfl) rfl ?_
  refine RH.val 18 rfl krX krX krX krX (Wanted.free rfl) (V.assign rfl rfl) rfl ?_
  refine RH.done krX ?_
  refine SG.retE (Ret.r1 Tryd.func22 rfl (.tmp rfl)) ?_ ⟨by rw [← less_eq]; first | (rw [decide_eq_false hne]; rfl) | (rw [decide_eq_true hne, decide_eq_true hlt]; rfl) | (rw [decide_eq_true hne, decide_eq_false hlt]; rfl), rfl⟩
  exact entX

set_option maxRecDepth 100000 in
theorem rLess_ok {κ : World} {L : List Assn} {a b : Lab} :
    Ctr Tryd.prog 23 #[(.agg ([vI a.num, vI a.suf] : List Value).toArray), (.agg ([vI b.num, vI b.suf] : List Value).toArray)] κ L (fun v M => v = vB (decide (before a b)) ∧ M = L) := by
 refine Ctr.enter (vs := [(.agg ([vI a.num, vI a.suf] : List Value).toArray), (.agg ([vI b.num, vI b.suf] : List Value).toArray)]) (m := 24) Tryd.func23 rfl rfl rfl ?_
 refine SG.seq ?_
 refine SG.region ?_
 refine RL.eff (Wanted.free rfl) (E.box _ rfl rfl rfl) rfl ?_
 rintro _ _ ⟨b2, rfl, rfl⟩
 refine RL.eff (Wanted.free rfl) (E.box _ rfl rfl rfl) rfl ?_
 rintro _ _ ⟨b3, rfl, rfl⟩
 refine RL.val (Wanted.free rfl) (V.assign rfl rfl) rfl ?_
 refine RL.nil ?_
 refine SG.seq ?_
 refine SG.region ?_
 refine RL.val (Wanted.free rfl) (V.fieldAddr rfl rfl fo23_0) rfl ?_
 refine RL.val (Wanted.free rfl) (V.load rfl on3 rfl pickX rfl) rfl ?_
 refine RL.val (Wanted.free rfl) (V.fieldAddr rfl rfl fo23_0) rfl ?_
 refine RL.val (Wanted.free rfl) (V.load rfl on3 rfl pickX rfl) rfl ?_
 refine RL.cmp (Wanted.free rfl) (V.bin rfl rfl rfl B.lss) rfl (fun h8 => ?_) (fun h8 => ?_)
 ·
  refine RL.val (Wanted.free rfl) (V.move rfl rfl) rfl ?_
  refine RL.skip (Wanted.no rfl rfl rfl rfl rfl) rfl ?_
  refine RL.skip (Wanted.no rfl rfl rfl rfl rfl) rfl ?_
  refine RL.skip (Wanted.no rfl rfl rfl rfl rfl) rfl ?_
  refine RL.skip (Wanted.no rfl rfl rfl rfl rfl) rfl ?_
  refine RL.skip (Wanted.no rfl rfl rfl rfl rfl) rfl ?_
  refine RL.skip (Wanted.no rfl rfl rfl rfl rfl) rfl ?_
  refine RL.skip (Wanted.un rfl rfl rfl) rfl ?_
  refine RL.skip (Wanted.un rfl rfl rfl) rfl ?_
  refine RL.skip (Wanted.un rfl rfl rfl) rfl ?_
  refine RL.skip (Wanted.un rfl rfl rfl) rfl ?_
  refine RL.skip (Wanted.un rfl rfl rfl) rfl ?_
  refine RL.skip (Wanted.no rfl rfl rfl rfl rfl) rfl ?_
  refine RL.val (Wanted.free rfl) (V.pick_true rfl rfl rfl) rfl ?_
  refine RL.val (Wanted.free rfl) (V.assign rfl rfl) rfl ?_
  refine RL.nil ?_
  refine SG.retE (Ret.r1 Tryd.func23 rfl (.tmp rfl)) ?_ ⟨by first | (rw [decide_eq_true (by unfold before; omega)]) | (rw [decide_eq_false (by unfold before; omega)]), rfl⟩
  exact entX
 ·
  refine RL.val (Wanted.free rfl) (V.move rfl rfl) rfl ?_
  refine RL.val (Wanted.yes rfl rfl rfl rfl) (V.fieldAddr rfl rfl fo23_0) rfl ?_
  refine RL.val (Wanted.yes rfl rfl rfl rfl) (V.load rfl on3 rfl pickX rfl) rfl ?_
  refine RL.val (Wanted.yes rfl rfl rfl rfl) (V.fieldAddr rfl rfl fo23_0) rfl ?_
  refine RL.val (Wanted.yes rfl rfl rfl rfl) (V.load rfl on3 rfl pickX rfl) rfl ?_
  refine RL.cmp (Wanted.yes rfl rfl rfl rfl) (V.bin rfl rfl rfl B.eql) rfl (fun h16 => ?_) (fun h16 => ?_)
  ·
   refine RL.val (Wanted.yes rfl rfl rfl rfl) (V.move rfl rfl) rfl ?_
   refine RL.val (Wanted.yes rfl rfl rfl rfl) (V.fieldAddr rfl rfl fo23_1) rfl ?_
   refine RL.val (Wanted.yes rfl rfl rfl rfl) (V.load rfl on3 rfl pickX rfl) rfl ?_
   refine RL.val (Wanted.yes rfl rfl rfl rfl) (V.fieldAddr rfl rfl fo23_1) rfl ?_
   refine RL.val (Wanted.yes rfl rfl rfl rfl) (V.load rfl on3 rfl pickX rfl) rfl ?_
   refine RL.cmp (Wanted.yes rfl rfl rfl rfl) (V.bin rfl rfl rfl B.lss) rfl (fun h22 => ?_) (fun h22 => ?_)
   ·
    refine RL.val (Wanted.yes rfl rfl rfl rfl) (V.pick_true rfl rfl rfl) rfl ?_
    refine RL.val (Wanted.free rfl) (V.pick_false rfl rfl rfl) rfl ?_
    refine RL.val (Wanted.free rfl) (V.assign rfl rfl) rfl ?_
    refine RL.nil ?_
    refine SG.retE (Ret.r1 Tryd.func23 rfl (.tmp rfl)) ?_ ⟨by first | (rw [decide_eq_true (by unfold before; omega)]) | (rw [decide_eq_false (by unfold before; omega)]), rfl⟩
    exact entX
   ·
    refine RL.val (Wanted.yes rfl rfl rfl rfl) (V.pick_true rfl rfl rfl) rfl ?_
    refine RL.val (Wanted.free rfl) (V.pick_false rfl rfl rfl) rfl ?_
    refine RL.val (Wanted.free rfl) (V.assign rfl rfl) rfl ?_
    refine RL.nil ?_
    refine SG.retE (Ret.r1 Tryd.func23 rfl (.tmp rfl)) ?_ ⟨by first | (rw [decide_eq_true (by unfold before; omega)]) | (rw [decide_eq_false (by unfold before; omega)]), rfl⟩
    exact entX
  ·
   refine RL.val (Wanted.yes rfl rfl rfl rfl) (V.move rfl rfl) rfl ?_
   refine RL.skip (Wanted.no rfl rfl rfl rfl rfl) rfl ?_
   refine RL.skip (Wanted.no rfl rfl rfl rfl rfl) rfl ?_
   refine RL.skip (Wanted.no rfl rfl rfl rfl rfl) rfl ?_
   refine RL.skip (Wanted.no rfl rfl rfl rfl rfl) rfl ?_
   refine RL.skip (Wanted.no rfl rfl rfl rfl rfl) rfl ?_
   refine RL.val (Wanted.yes rfl rfl rfl rfl) (V.pick_false rfl rfl rfl) rfl ?_
   refine RL.val (Wanted.free rfl) (V.pick_false rfl rfl rfl) rfl ?_
   refine RL.val (Wanted.free rfl) (V.assign rfl rfl) rfl ?_
   refine RL.nil ?_
   refine SG.retE (Ret.r1 Tryd.func23 rfl (.tmp rfl)) ?_ ⟨by first | (rw [decide_eq_true (by unfold before; omega)]) | (rw [decide_eq_false (by unfold before; omega)]), rfl⟩
   exact entX

end Go.Proofs.YteopejoppdgncaaDoor
