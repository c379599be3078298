/- The laws. -/
import Derived.Test.YteopejoppdgncaaDoorLives
import Derived.Test.YteopejoppdgncaaDoorRparse
namespace Go.Proofs.YteopejoppdgncaaDoor
open Go.Wk Go.Lb

set_option maxRecDepth 100000 in
set_option maxHeartbeats 1000000 in
theorem checks_law {κ : World} {L : List Assn} {l : Lab} (hT : Glob 0 pows ∈ L) :
    Ctr Tryd.prog 3 #[(.agg ([vI l.num, vI l.suf] : List Value).toArray)] κ L (fun v M => v = vB true ∧ M = L) := by
 refine Ctr.enter (vs := [(.agg ([vI l.num, vI l.suf] : List Value).toArray)]) (m := 42) Tryd.func3 rfl rfl rfl ?_
 refine SG.seq ?_
 refine SG.region ?_
 refine RL.eff (Wanted.free rfl) (E.box _ rfl rfl rfl) rfl ?_
 rintro _ _ ⟨b1, rfl, rfl⟩
 refine RL.val (Wanted.free rfl) (V.assign rfl rfl) rfl ?_
 refine RL.nil ?_
 refine SG.seq ?_
 refine SG.region ?_
 refine RL.val (Wanted.free rfl) (V.loadAgg (us := [vI l.num, vI l.suf]) rfl ag23 rfl pickX rfl rfl) rfl ?_
 refine RL.eff (Wanted.free rfl) (E.call rfl go12 rfl (lNext_ok (l := l))) rfl ?_
 rintro _ _ ⟨rfl, rfl⟩
 refine RL.val (Wanted.free rfl) (V.move rfl rfl) rfl ?_
 refine RL.val (Wanted.free rfl) (V.extract rfl rfl rfl) rfl ?_
 refine RL.val (Wanted.free rfl) (V.extract rfl rfl rfl) rfl ?_
 refine RL.eff (Wanted.free rfl) (E.alloc rfl ze23) rfl ?_
 rintro _ _ ⟨b3, rfl, rfl⟩
 refine RL.eff (Wanted.free rfl) (E.storeWhole rfl rfl rfl (by rfl) sz23 pickX (by first | (simp [Value.oneCell']; done) | (simp [setAt, Value.oneCell']; done)) (by rfl)) rfl ?_
 rintro _ _ rfl
 refine RL.val (Wanted.free rfl) (V.assign rfl rfl) rfl ?_
 refine RL.nil ?_
 refine SG.seq ?_
 refine SG.region ?_
 refine RL.val (Wanted.free rfl) (V.loadAgg (us := [vI l.num, vI l.suf]) rfl ag23 rfl pickX rfl rfl) rfl ?_
 refine RL.eff (Wanted.free rfl) (E.call rfl go13 rfl (rNext_ok (l := l))) rfl ?_
 rintro _ _ ⟨rfl, rfl⟩
 refine RL.val (Wanted.free rfl) (V.move rfl rfl) rfl ?_
 refine RL.val (Wanted.free rfl) (V.extract rfl rfl rfl) rfl ?_
 refine RL.val (Wanted.free rfl) (V.extract rfl rfl rfl) rfl ?_
 refine RL.eff (Wanted.free rfl) (E.alloc rfl ze23) rfl ?_
 rintro _ _ ⟨b5, rfl, rfl⟩
 refine RL.eff (Wanted.free rfl) (E.storeWhole rfl rfl rfl (by rfl) sz23 pickX (by first | (simp [Value.oneCell']; done) | (simp [setAt, Value.oneCell']; done)) (by rfl)) rfl ?_
 rintro _ _ rfl
 refine RL.val (Wanted.free rfl) (V.assign rfl rfl) rfl ?_
 refine RL.nil ?_
 refine SG.seq ?_
 refine SG.drawL 26 26 wide rfl rfl ?_
 refine RH.val 0 rfl krX krX krX krX (Wanted.free rfl) (V.loadAgg (us := [vI l.num, vI l.suf]) rfl ag23 rfl pickX rfl rfl) rfl ?_
 refine RH.val 2 rfl krX krX krX krX (Wanted.free rfl) (V.loadAgg (us := [vI l.num, vI l.suf]) rfl ag23 rfl pickX rfl rfl) rfl ?_
 refine RH.one (i := 1) krX ?_
 refine RHone.eff rfl (Wanted.free rfl) (E.call rfl go14 rfl (lCheck_ok (l := l))) rfl ?_
 rintro _ _ ⟨rfl, rfl⟩
 refine ⟨.inr entX, ?_⟩
 refine RH.one (i := 3) krX ?_
 refine RHone.eff rfl (Wanted.free rfl) (E.call rfl go15 rfl (rCheck_ok (l := l))) rfl ?_
 rintro _ _ ⟨rfl, rfl⟩
 refine ⟨.inr entX, ?_⟩
 refine RH.cmpT 4 rfl krX krX krX krX (Wanted.free rfl) (V.bin rfl rfl rfl B.eql) rfl rfl ?_
 refine RH.val 5 rfl krX krX krX krX (Wanted.free rfl) (V.move rfl rfl) rfl ?_
 refine RH.val 6 rfl krX krX krX krX (Wanted.yes rfl rfl rfl rfl) (V.loadAgg (us := [vI (nextV l).1.num, vI (nextV l).1.suf]) rfl ag23 rfl pickX rfl rfl) rfl ?_
 refine RH.val 7 rfl krX krX krX krX (Wanted.yes rfl rfl rfl rfl) (V.loadAgg (us := [vI (nextV l).1.num, vI (nextV l).1.suf]) rfl ag23 rfl pickX rfl rfl) rfl ?_
 refine RH.cmpT 8 rfl krX krX krX krX (Wanted.yes rfl rfl rfl rfl) (V.eqlLab (s := (nextV l).1) (s' := (nextV l).1) rfl rfl rfl) rfl rfl ?_
 refine RH.pure 9 rfl krX krX krX krX (Wanted.free rfl) (V.pick_true rfl rfl rfl) rfl ?_
 refine RH.val 10 rfl krX krX krX krX (Wanted.free rfl) (V.move rfl rfl) rfl ?_
 refine RH.val 11 rfl krX krX krX krX (Wanted.yes rfl rfl rfl rfl) (V.move rfl rfl) rfl ?_
 refine RH.val 12 rfl krX krX krX krX (Wanted.yes rfl rfl rfl rfl) (V.move rfl rfl) rfl ?_
 refine RH.cmpT 13 rfl krX krX krX krX (Wanted.yes rfl rfl rfl rfl) (V.bin rfl rfl rfl B.eql) rfl rfl ?_
 refine RH.pure 14 rfl krX krX krX krX (Wanted.free rfl) (V.pick_true rfl rfl rfl) rfl ?_
 refine RH.val 15 rfl krX krX krX krX (Wanted.free rfl) (V.move rfl rfl) rfl ?_
 refine RH.val 16 rfl krX krX krX krX (Wanted.yes rfl rfl rfl rfl) (V.loadAgg (us := [vI l.num, vI l.suf]) rfl ag23 rfl pickX rfl rfl) rfl ?_
 refine RH.val 18 rfl krX krX krX krX (Wanted.yes rfl rfl rfl rfl) (V.loadAgg (us := [vI l.num, vI l.suf]) rfl ag23 rfl pickX rfl rfl) rfl ?_
 refine RH.one (i := 17) krX ?_
 refine RHone.eff rfl (Wanted.yes rfl rfl rfl rfl) (E.call rfl go16 rfl (lText_ok (l := l) memX)) rfl ?_
 rintro _ _ ⟨rfl, rfl⟩
 refine ⟨.inr entX, ?_⟩
 refine RH.one (i := 19) krX ?_
 refine RHone.eff rfl (Wanted.yes rfl rfl rfl rfl) (E.call rfl go17 rfl (rText_ok (l := l))) rfl ?_
 rintro _ _ ⟨rfl, rfl⟩
 refine ⟨.inr entX, ?_⟩
 refine RH.cmpT 20 rfl krX krX krX krX (Wanted.yes rfl rfl rfl rfl) (V.bin rfl rfl rfl B.eqlS) rfl rfl ?_
 refine RH.pure 21 rfl krX krX krX krX (Wanted.free rfl) (V.pick_true rfl rfl rfl) rfl ?_
 refine RH.val 22 rfl krX krX krX krX (Wanted.free rfl) (V.move rfl rfl) rfl ?_
 refine RH.one (i := 23) krX ?_
 refine RHone.eff rfl (Wanted.yes rfl rfl rfl rfl) (E.call rfl go18 rfl (lives_ok memX)) rfl ?_
 rintro _ _ ⟨rfl, rfl⟩
 refine ⟨.inr entX, ?_⟩
 refine RH.pure 24 rfl krX krX krX krX (Wanted.free rfl) (V.pick_true rfl rfl rfl) rfl ?_
 refine RH.val 25 rfl krX krX krX krX (Wanted.free rfl) (V.assign rfl rfl) rfl ?_
 refine RH.done krX ?_
 refine SG.retE (Ret.r1 Tryd.func3 rfl (.tmp rfl)) ?_ ⟨rfl, rfl⟩
 exact entX

set_option maxRecDepth 100000 in
set_option maxHeartbeats 1000000 in
theorem parses_law {κ : World} {L : List Assn} {s : List UInt8} (hT : Glob 0 pows ∈ L) :
    Ctr Tryd.prog 4 #[vS s] κ L (fun v M => v = vB true ∧ M = L) := by
 refine Ctr.enter (vs := [vS s]) (m := 31) Tryd.func4 rfl rfl rfl ?_
 refine SG.seq ?_
 refine SG.region ?_
 refine RL.val (Wanted.free rfl) (V.assign rfl rfl) rfl ?_
 refine RL.nil ?_
 refine SG.seq ?_
 refine SG.region ?_
 refine RL.val (Wanted.free rfl) (V.move rfl rfl) rfl ?_
 refine RL.eff (Wanted.free rfl) (E.call rfl go19 rfl (short_ok (s := s) (k := 1000) (by omega))) rfl ?_
 rintro _ _ ⟨rfl, rfl⟩
 refine RL.val (Wanted.free rfl) (V.assign rfl rfl) rfl ?_
 refine RL.nil ?_
 refine SG.seq ?_
 refine SG.region ?_
 refine RL.val (Wanted.free rfl) (V.move rfl rfl) rfl ?_
 refine RL.eff (Wanted.free rfl) (E.call rfl go20 rfl (lParse_ok (s := (s.take 1000)))) rfl ?_
 rintro _ _ ⟨rfl, rfl⟩
 refine RL.val (Wanted.free rfl) (V.move rfl rfl) rfl ?_
 refine RL.val (Wanted.free rfl) (V.extract rfl rfl rfl) rfl ?_
 refine RL.val (Wanted.free rfl) (V.extract rfl rfl rfl) rfl ?_
 refine RL.eff (Wanted.free rfl) (E.alloc rfl ze23) rfl ?_
 rintro _ _ ⟨b4, rfl, rfl⟩
 refine RL.eff (Wanted.free rfl) (E.storeWhole rfl rfl rfl (by rfl) sz23 pickX (by first | (simp [Value.oneCell']; done) | (simp [setAt, Value.oneCell']; done)) (by rfl)) rfl ?_
 rintro _ _ rfl
 refine RL.val (Wanted.free rfl) (V.assign rfl rfl) rfl ?_
 refine RL.nil ?_
 refine SG.seq ?_
 refine SG.region ?_
 refine RL.val (Wanted.free rfl) (V.move rfl rfl) rfl ?_
 refine RL.eff (Wanted.free rfl) (E.call rfl go21 rfl (rParse_ok (s := (s.take 1000)) (by rw [List.length_take]; omega))) rfl ?_
 rintro _ _ ⟨rfl, rfl⟩
 refine RL.val (Wanted.free rfl) (V.move rfl rfl) rfl ?_
 refine RL.val (Wanted.free rfl) (V.extract rfl rfl rfl) rfl ?_
 refine RL.val (Wanted.free rfl) (V.extract rfl rfl rfl) rfl ?_
 refine RL.eff (Wanted.free rfl) (E.alloc rfl ze23) rfl ?_
 rintro _ _ ⟨b6, rfl, rfl⟩
 refine RL.eff (Wanted.free rfl) (E.storeWhole rfl rfl rfl (by rfl) sz23 pickX (by first | (simp [Value.oneCell']; done) | (simp [setAt, Value.oneCell']; done)) (by rfl)) rfl ?_
 rintro _ _ rfl
 refine RL.val (Wanted.free rfl) (V.assign rfl rfl) rfl ?_
 refine RL.nil ?_
 refine SG.seq ?_
 refine SG.region ?_
 refine RL.val (Wanted.free rfl) (V.loadAgg (us := [vI (parseV 7 5 (s.take 1000)).1.num, vI (parseV 7 5 (s.take 1000)).1.suf]) rfl ag23 rfl pickX rfl rfl) rfl ?_
 refine RL.val (Wanted.free rfl) (V.loadAgg (us := [vI (parseV 7 5 (s.take 1000)).1.num, vI (parseV 7 5 (s.take 1000)).1.suf]) rfl ag23 rfl pickX rfl rfl) rfl ?_
 refine RL.cmpT (Wanted.free rfl) (V.eqlLab (s := (parseV 7 5 (s.take 1000)).1) (s' := (parseV 7 5 (s.take 1000)).1) rfl rfl rfl) rfl rfl ?_
 refine RL.val (Wanted.free rfl) (V.move rfl rfl) rfl ?_
 refine RL.val (Wanted.yes rfl rfl rfl rfl) (V.move rfl rfl) rfl ?_
 refine RL.val (Wanted.yes rfl rfl rfl rfl) (V.move rfl rfl) rfl ?_
 refine RL.cmpT (Wanted.yes rfl rfl rfl rfl) (V.bin rfl rfl rfl B.eql) rfl rfl ?_
 refine RL.val (Wanted.free rfl) (V.pick_true rfl rfl rfl) rfl ?_
 refine RL.val (Wanted.free rfl) (V.move rfl rfl) rfl ?_
 refine RL.eff (Wanted.yes rfl rfl rfl rfl) (E.call rfl go18 rfl (lives_ok memX)) rfl ?_
 rintro _ _ ⟨rfl, rfl⟩
 refine RL.val (Wanted.free rfl) (V.pick_true rfl rfl rfl) rfl ?_
 refine RL.val (Wanted.free rfl) (V.assign rfl rfl) rfl ?_
 refine RL.nil ?_
 refine SG.retE (Ret.r1 Tryd.func4 rfl (.tmp rfl)) ?_ ⟨rfl, rfl⟩
 exact entX

set_option maxRecDepth 100000 in
set_option maxHeartbeats 1000000 in
theorem less_law {κ : World} {L : List Assn} {a b c : Lab} (hT : Glob 0 pows ∈ L) :
    Ctr Tryd.prog 5 #[(.agg ([vI a.num, vI a.suf] : List Value).toArray), (.agg ([vI b.num, vI b.suf] : List Value).toArray), (.agg ([vI c.num, vI c.suf] : List Value).toArray)] κ L (fun v M => v = vB true ∧ M = L) := by
 refine Ctr.enter (vs := [(.agg ([vI a.num, vI a.suf] : List Value).toArray), (.agg ([vI b.num, vI b.suf] : List Value).toArray), (.agg ([vI c.num, vI c.suf] : List Value).toArray)]) (m := 59) Tryd.func5 rfl rfl rfl ?_
 refine SG.seq ?_
 refine SG.region ?_
 refine RL.eff (Wanted.free rfl) (E.box _ rfl rfl rfl) rfl ?_
 rintro _ _ ⟨b3, rfl, rfl⟩
 refine RL.eff (Wanted.free rfl) (E.box _ rfl rfl rfl) rfl ?_
 rintro _ _ ⟨b4, rfl, rfl⟩
 refine RL.eff (Wanted.free rfl) (E.box _ rfl rfl rfl) rfl ?_
 rintro _ _ ⟨b5, rfl, rfl⟩
 refine RL.val (Wanted.free rfl) (V.assign rfl rfl) rfl ?_
 refine RL.nil ?_
 refine SG.seq ?_
 refine SG.seq ?_
 refine SG.drawL 22 22 wide rfl rfl ?_
 refine RH.val 0 rfl krX krX krX krX (Wanted.free rfl) (V.loadAgg (us := [vI a.num, vI a.suf]) rfl ag23 rfl pickX rfl rfl) rfl ?_
 refine RH.val 1 rfl krX krX krX krX (Wanted.free rfl) (V.loadAgg (us := [vI b.num, vI b.suf]) rfl ag23 rfl pickX rfl rfl) rfl ?_
 refine RH.val 3 rfl krX krX krX krX (Wanted.free rfl) (V.loadAgg (us := [vI a.num, vI a.suf]) rfl ag23 rfl pickX rfl rfl) rfl ?_
 refine RH.val 4 rfl krX krX krX krX (Wanted.free rfl) (V.loadAgg (us := [vI b.num, vI b.suf]) rfl ag23 rfl pickX rfl rfl) rfl ?_
 refine RH.one (i := 2) krX ?_
 refine RHone.eff rfl (Wanted.free rfl) (E.call rfl go22 rfl (lLess_ok (a := a) (b := b))) rfl ?_
 rintro _ _ ⟨rfl, rfl⟩
 refine ⟨.inr entX, ?_⟩
 refine RH.one (i := 5) krX ?_
 refine RHone.eff rfl (Wanted.free rfl) (E.call rfl go23 rfl (rLess_ok (a := a) (b := b))) rfl ?_
 rintro _ _ ⟨rfl, rfl⟩
 refine ⟨.inr entX, ?_⟩
 refine RH.cmpF 6 rfl krX krX krX krX (Wanted.free rfl) (V.neqBool rfl ub4 rfl rfl) rfl (fun h => h rfl) ?_
 refine RH.val 7 rfl krX krX krX krX (Wanted.free rfl) (V.move rfl rfl) rfl ?_
 refine RH.val 8 rfl krX krX krX krX (Wanted.yes rfl rfl rfl rfl) (V.loadAgg (us := [vI a.num, vI a.suf]) rfl ag23 rfl pickX rfl rfl) rfl ?_
 refine RH.val 9 rfl krX krX krX krX (Wanted.yes rfl rfl rfl rfl) (V.loadAgg (us := [vI a.num, vI a.suf]) rfl ag23 rfl pickX rfl rfl) rfl ?_
 refine RH.one (i := 10) krX ?_
 refine RHone.eff rfl (Wanted.yes rfl rfl rfl rfl) (E.call rfl go22 rfl (lLess_ok (a := a) (b := a))) rfl ?_
 rintro _ _ ⟨rfl, rfl⟩
 refine ⟨.inr entX, ?_⟩
 rw [decide_eq_false (before_irrefl a)]
 refine RH.pure 11 rfl krX krX krX krX (Wanted.free rfl) (V.pick_false rfl rfl rfl) rfl ?_
 refine RH.val 12 rfl krX krX krX krX (Wanted.free rfl) (V.move rfl rfl) rfl ?_
 refine RH.val 13 rfl krX krX krX krX (Wanted.yes rfl rfl rfl rfl) (V.loadAgg (us := [vI a.num, vI a.suf]) rfl ag23 rfl pickX rfl rfl) rfl ?_
 refine RH.val 14 rfl krX krX krX krX (Wanted.yes rfl rfl rfl rfl) (V.loadAgg (us := [vI b.num, vI b.suf]) rfl ag23 rfl pickX rfl rfl) rfl ?_
 refine RH.one (i := 15) krX ?_
 refine RHone.eff rfl (Wanted.yes rfl rfl rfl rfl) (E.call rfl go22 rfl (lLess_ok (a := a) (b := b))) rfl ?_
 rintro _ _ ⟨rfl, rfl⟩
 refine ⟨.inr entX, ?_⟩
 refine RH.val 16 rfl krX krX krX krX (Wanted.yes rfl rfl rfl rfl) (V.move rfl rfl) rfl ?_
 refine RH.split 23 rfl (fun g20 => ?_) (fun g20 => ?_)
 ·
  refine RH.val 17 rfl krX krX krX krX (Wanted.yes rfl rfl rfl rfl) (V.loadAgg (us := [vI b.num, vI b.suf]) rfl ag23 rfl pickX rfl rfl) rfl ?_
  refine RH.val 18 rfl krX krX krX krX (Wanted.yes rfl rfl rfl rfl) (V.loadAgg (us := [vI a.num, vI a.suf]) rfl ag23 rfl pickX rfl rfl) rfl ?_
  refine RH.one (i := 19) krX ?_
  refine RHone.eff rfl (Wanted.yes rfl rfl rfl rfl) (E.call rfl go22 rfl (lLess_ok (a := b) (b := a))) rfl ?_
  rintro _ _ ⟨rfl, rfl⟩
  refine ⟨.inr entX, ?_⟩
  rw [decide_eq_false (before_asymm (a := a) (b := b) (of_decide_eq_true (by assumption)))]
  refine RH.pure 20 rfl krX krX krX krX (Wanted.yes rfl rfl rfl rfl) (V.pick_true rfl rfl rfl) rfl ?_
  refine RH.pure 21 rfl krX krX krX krX (Wanted.free rfl) (V.pick_false rfl rfl rfl) rfl ?_
  refine RH.done krX ?_
  refine SG.cond_false rfl ?_
  refine SG.skip ?_
  refine SG.seq ?_
  refine SG.seq ?_
  refine SG.region ?_
  refine RL.val (Wanted.free rfl) (V.loadAgg (us := [vI a.num, vI a.suf]) rfl ag23 rfl pickX rfl rfl) rfl ?_
  refine RL.val (Wanted.free rfl) (V.loadAgg (us := [vI b.num, vI b.suf]) rfl ag23 rfl pickX rfl rfl) rfl ?_
  refine RL.eff (Wanted.free rfl) (E.call rfl go22 rfl (lLess_ok (a := a) (b := b))) rfl ?_
  rintro _ _ ⟨rfl, rfl⟩
  refine RL.val (Wanted.free rfl) (V.move rfl rfl) rfl ?_
  refine RL.split 32 rfl (fun g28 => ?_) (fun g28 => ?_)
  ·
   refine RL.val (Wanted.yes rfl rfl rfl rfl) (V.loadAgg (us := [vI b.num, vI b.suf]) rfl ag23 rfl pickX rfl rfl) rfl ?_
   refine RL.val (Wanted.yes rfl rfl rfl rfl) (V.loadAgg (us := [vI c.num, vI c.suf]) rfl ag23 rfl pickX rfl rfl) rfl ?_
   refine RL.eff (Wanted.yes rfl rfl rfl rfl) (E.call rfl go22 rfl (lLess_ok (a := b) (b := c))) rfl ?_
   rintro _ _ ⟨rfl, rfl⟩
   refine RL.val (Wanted.free rfl) (V.pick_true rfl rfl rfl) rfl ?_
   refine RL.val (Wanted.free rfl) (V.move rfl rfl) rfl ?_
   refine RL.split 37 rfl (fun g33 => ?_) (fun g33 => ?_)
   ·
    refine RL.val (Wanted.yes rfl rfl rfl rfl) (V.loadAgg (us := [vI a.num, vI a.suf]) rfl ag23 rfl pickX rfl rfl) rfl ?_
    refine RL.val (Wanted.yes rfl rfl rfl rfl) (V.loadAgg (us := [vI c.num, vI c.suf]) rfl ag23 rfl pickX rfl rfl) rfl ?_
    refine RL.eff (Wanted.yes rfl rfl rfl rfl) (E.call rfl go22 rfl (lLess_ok (a := a) (b := c))) rfl ?_
    rintro _ _ ⟨rfl, rfl⟩
    rw [decide_eq_true (before_trans (a := a) (b := b) (c := c) (of_decide_eq_true (by assumption)) (of_decide_eq_true (by assumption)))]
    refine RL.val (Wanted.yes rfl rfl rfl rfl) (V.not rfl rfl) rfl ?_
    refine RL.val (Wanted.free rfl) (V.pick_true rfl rfl rfl) rfl ?_
    refine RL.nil ?_
    refine SG.cond_false rfl ?_
    refine SG.skip ?_
    refine SG.seq ?_
    refine SG.region ?_
    refine RL.val (Wanted.free rfl) (V.loadAgg (us := [vI a.num, vI a.suf]) rfl ag23 rfl pickX rfl rfl) rfl ?_
    refine RL.val (Wanted.free rfl) (V.loadAgg (us := [vI b.num, vI b.suf]) rfl ag23 rfl pickX rfl rfl) rfl ?_
    refine RL.cmp (Wanted.free rfl) (V.eqlLab (s := a) (s' := b) rfl rfl rfl) rfl (fun h39 => ?_) (fun h39 => ?_)
    ·
     refine RL.val (Wanted.free rfl) (V.move rfl rfl) rfl ?_
     refine RL.skip (Wanted.no rfl rfl rfl rfl rfl) rfl ?_
     refine RL.skip (Wanted.no rfl rfl rfl rfl rfl) rfl ?_
     refine RL.skip (Wanted.no rfl rfl rfl rfl rfl) rfl ?_
     refine RL.val (Wanted.free rfl) (V.pick_true rfl rfl rfl) rfl ?_
     refine RL.val (Wanted.free rfl) (V.move rfl rfl) rfl ?_
     refine RL.skip (Wanted.no rfl rfl rfl rfl rfl) rfl ?_
     refine RL.skip (Wanted.no rfl rfl rfl rfl rfl) rfl ?_
     refine RL.skip (Wanted.no rfl rfl rfl rfl rfl) rfl ?_
     refine RL.val (Wanted.free rfl) (V.pick_true rfl rfl rfl) rfl ?_
     refine RL.val (Wanted.free rfl) (V.move rfl rfl) rfl ?_
     refine RL.eff (Wanted.yes rfl rfl rfl rfl) (E.call rfl go18 rfl (lives_ok memX)) rfl ?_
     rintro _ _ ⟨rfl, rfl⟩
     refine RL.val (Wanted.free rfl) (V.pick_true rfl rfl rfl) rfl ?_
     refine RL.val (Wanted.free rfl) (V.assign rfl rfl) rfl ?_
     refine RL.nil ?_
     refine SG.retE (Ret.r1 Tryd.func5 rfl (.tmp rfl)) ?_ ⟨rfl, rfl⟩
     exact entX
    ·
     have hne : a ≠ b := h39
     refine RL.val (Wanted.free rfl) (V.move rfl rfl) rfl ?_
     refine RL.val (Wanted.yes rfl rfl rfl rfl) (V.loadAgg (us := [vI a.num, vI a.suf]) rfl ag23 rfl pickX rfl rfl) rfl ?_
     refine RL.val (Wanted.yes rfl rfl rfl rfl) (V.loadAgg (us := [vI b.num, vI b.suf]) rfl ag23 rfl pickX rfl rfl) rfl ?_
     refine RL.eff (Wanted.yes rfl rfl rfl rfl) (E.call rfl go22 rfl (lLess_ok (a := a) (b := b))) rfl ?_
     rintro _ _ ⟨rfl, rfl⟩
     refine RL.val (Wanted.free rfl) (V.pick_false rfl rfl rfl) rfl ?_
     refine RL.val (Wanted.free rfl) (V.move rfl rfl) rfl ?_
     refine RL.split 51 rfl (fun g50 => ?_) (fun g50 => ?_)
     ·
      refine RL.skip (Wanted.no rfl rfl rfl rfl rfl) rfl ?_
      refine RL.skip (Wanted.no rfl rfl rfl rfl rfl) rfl ?_
      refine RL.skip (Wanted.no rfl rfl rfl rfl rfl) rfl ?_
      refine RL.val (Wanted.free rfl) (V.pick_true rfl rfl rfl) rfl ?_
      refine RL.val (Wanted.free rfl) (V.move rfl rfl) rfl ?_
      refine RL.eff (Wanted.yes rfl rfl rfl rfl) (E.call rfl go18 rfl (lives_ok memX)) rfl ?_
      rintro _ _ ⟨rfl, rfl⟩
      refine RL.val (Wanted.free rfl) (V.pick_true rfl rfl rfl) rfl ?_
      refine RL.val (Wanted.free rfl) (V.assign rfl rfl) rfl ?_
      refine RL.nil ?_
      refine SG.retE (Ret.r1 Tryd.func5 rfl (.tmp rfl)) ?_ ⟨rfl, rfl⟩
      exact entX
     ·
      refine RL.val (Wanted.yes rfl rfl rfl rfl) (V.loadAgg (us := [vI b.num, vI b.suf]) rfl ag23 rfl pickX rfl rfl) rfl ?_
      refine RL.val (Wanted.yes rfl rfl rfl rfl) (V.loadAgg (us := [vI a.num, vI a.suf]) rfl ag23 rfl pickX rfl rfl) rfl ?_
      refine RL.eff (Wanted.yes rfl rfl rfl rfl) (E.call rfl go22 rfl (lLess_ok (a := b) (b := a))) rfl ?_
      rintro _ _ ⟨rfl, rfl⟩
      rw [decide_eq_true (before_total hne (of_decide_eq_false (by assumption)))]
      refine RL.val (Wanted.free rfl) (V.pick_false rfl rfl rfl) rfl ?_
      refine RL.val (Wanted.free rfl) (V.move rfl rfl) rfl ?_
      refine RL.eff (Wanted.yes rfl rfl rfl rfl) (E.call rfl go18 rfl (lives_ok memX)) rfl ?_
      rintro _ _ ⟨rfl, rfl⟩
      refine RL.val (Wanted.free rfl) (V.pick_true rfl rfl rfl) rfl ?_
      refine RL.val (Wanted.free rfl) (V.assign rfl rfl) rfl ?_
      refine RL.nil ?_
      refine SG.retE (Ret.r1 Tryd.func5 rfl (.tmp rfl)) ?_ ⟨rfl, rfl⟩
      exact entX
   ·
    refine RL.skip (Wanted.no rfl rfl rfl rfl rfl) rfl ?_
    refine RL.skip (Wanted.no rfl rfl rfl rfl rfl) rfl ?_
    refine RL.skip (Wanted.no rfl rfl rfl rfl rfl) rfl ?_
    refine RL.skip (Wanted.no rfl rfl rfl rfl rfl) rfl ?_
    refine RL.val (Wanted.free rfl) (V.pick_false rfl rfl rfl) rfl ?_
    refine RL.nil ?_
    refine SG.cond_false rfl ?_
    refine SG.skip ?_
    refine SG.seq ?_
    refine SG.region ?_
    refine RL.val (Wanted.free rfl) (V.loadAgg (us := [vI a.num, vI a.suf]) rfl ag23 rfl pickX rfl rfl) rfl ?_
    refine RL.val (Wanted.free rfl) (V.loadAgg (us := [vI b.num, vI b.suf]) rfl ag23 rfl pickX rfl rfl) rfl ?_
    refine RL.cmp (Wanted.free rfl) (V.eqlLab (s := a) (s' := b) rfl rfl rfl) rfl (fun h62 => ?_) (fun h62 => ?_)
    ·
     refine RL.val (Wanted.free rfl) (V.move rfl rfl) rfl ?_
     refine RL.skip (Wanted.no rfl rfl rfl rfl rfl) rfl ?_
     refine RL.skip (Wanted.no rfl rfl rfl rfl rfl) rfl ?_
     refine RL.skip (Wanted.no rfl rfl rfl rfl rfl) rfl ?_
     refine RL.val (Wanted.free rfl) (V.pick_true rfl rfl rfl) rfl ?_
     refine RL.val (Wanted.free rfl) (V.move rfl rfl) rfl ?_
     refine RL.skip (Wanted.no rfl rfl rfl rfl rfl) rfl ?_
     refine RL.skip (Wanted.no rfl rfl rfl rfl rfl) rfl ?_
     refine RL.skip (Wanted.no rfl rfl rfl rfl rfl) rfl ?_
     refine RL.val (Wanted.free rfl) (V.pick_true rfl rfl rfl) rfl ?_
     refine RL.val (Wanted.free rfl) (V.move rfl rfl) rfl ?_
     refine RL.eff (Wanted.yes rfl rfl rfl rfl) (E.call rfl go18 rfl (lives_ok memX)) rfl ?_
     rintro _ _ ⟨rfl, rfl⟩
     refine RL.val (Wanted.free rfl) (V.pick_true rfl rfl rfl) rfl ?_
     refine RL.val (Wanted.free rfl) (V.assign rfl rfl) rfl ?_
     refine RL.nil ?_
     refine SG.retE (Ret.r1 Tryd.func5 rfl (.tmp rfl)) ?_ ⟨rfl, rfl⟩
     exact entX
    ·
     have hne : a ≠ b := h62
     refine RL.val (Wanted.free rfl) (V.move rfl rfl) rfl ?_
     refine RL.val (Wanted.yes rfl rfl rfl rfl) (V.loadAgg (us := [vI a.num, vI a.suf]) rfl ag23 rfl pickX rfl rfl) rfl ?_
     refine RL.val (Wanted.yes rfl rfl rfl rfl) (V.loadAgg (us := [vI b.num, vI b.suf]) rfl ag23 rfl pickX rfl rfl) rfl ?_
     refine RL.eff (Wanted.yes rfl rfl rfl rfl) (E.call rfl go22 rfl (lLess_ok (a := a) (b := b))) rfl ?_
     rintro _ _ ⟨rfl, rfl⟩
     refine RL.val (Wanted.free rfl) (V.pick_false rfl rfl rfl) rfl ?_
     refine RL.val (Wanted.free rfl) (V.move rfl rfl) rfl ?_
     refine RL.split 51 rfl (fun g73 => ?_) (fun g73 => ?_)
     ·
      refine RL.skip (Wanted.no rfl rfl rfl rfl rfl) rfl ?_
      refine RL.skip (Wanted.no rfl rfl rfl rfl rfl) rfl ?_
      refine RL.skip (Wanted.no rfl rfl rfl rfl rfl) rfl ?_
      refine RL.val (Wanted.free rfl) (V.pick_true rfl rfl rfl) rfl ?_
      refine RL.val (Wanted.free rfl) (V.move rfl rfl) rfl ?_
      refine RL.eff (Wanted.yes rfl rfl rfl rfl) (E.call rfl go18 rfl (lives_ok memX)) rfl ?_
      rintro _ _ ⟨rfl, rfl⟩
      refine RL.val (Wanted.free rfl) (V.pick_true rfl rfl rfl) rfl ?_
      refine RL.val (Wanted.free rfl) (V.assign rfl rfl) rfl ?_
      refine RL.nil ?_
      refine SG.retE (Ret.r1 Tryd.func5 rfl (.tmp rfl)) ?_ ⟨rfl, rfl⟩
      exact entX
     ·
      refine RL.val (Wanted.yes rfl rfl rfl rfl) (V.loadAgg (us := [vI b.num, vI b.suf]) rfl ag23 rfl pickX rfl rfl) rfl ?_
      refine RL.val (Wanted.yes rfl rfl rfl rfl) (V.loadAgg (us := [vI a.num, vI a.suf]) rfl ag23 rfl pickX rfl rfl) rfl ?_
      refine RL.eff (Wanted.yes rfl rfl rfl rfl) (E.call rfl go22 rfl (lLess_ok (a := b) (b := a))) rfl ?_
      rintro _ _ ⟨rfl, rfl⟩
      rw [decide_eq_true (before_total hne (of_decide_eq_false (by assumption)))]
      refine RL.val (Wanted.free rfl) (V.pick_false rfl rfl rfl) rfl ?_
      refine RL.val (Wanted.free rfl) (V.move rfl rfl) rfl ?_
      refine RL.eff (Wanted.yes rfl rfl rfl rfl) (E.call rfl go18 rfl (lives_ok memX)) rfl ?_
      rintro _ _ ⟨rfl, rfl⟩
      refine RL.val (Wanted.free rfl) (V.pick_true rfl rfl rfl) rfl ?_
      refine RL.val (Wanted.free rfl) (V.assign rfl rfl) rfl ?_
      refine RL.nil ?_
      refine SG.retE (Ret.r1 Tryd.func5 rfl (.tmp rfl)) ?_ ⟨rfl, rfl⟩
      exact entX
  ·
   refine RL.skip (Wanted.no rfl rfl rfl rfl rfl) rfl ?_
   refine RL.skip (Wanted.no rfl rfl rfl rfl rfl) rfl ?_
   refine RL.skip (Wanted.no rfl rfl rfl rfl rfl) rfl ?_
   refine RL.val (Wanted.free rfl) (V.pick_false rfl rfl rfl) rfl ?_
   refine RL.val (Wanted.free rfl) (V.move rfl rfl) rfl ?_
   refine RL.skip (Wanted.no rfl rfl rfl rfl rfl) rfl ?_
   refine RL.skip (Wanted.no rfl rfl rfl rfl rfl) rfl ?_
   refine RL.skip (Wanted.no rfl rfl rfl rfl rfl) rfl ?_
   refine RL.skip (Wanted.no rfl rfl rfl rfl rfl) rfl ?_
   refine RL.val (Wanted.free rfl) (V.pick_false rfl rfl rfl) rfl ?_
   refine RL.nil ?_
   refine SG.cond_false rfl ?_
   refine SG.skip ?_
   refine SG.seq ?_
   refine SG.region ?_
   refine RL.val (Wanted.free rfl) (V.loadAgg (us := [vI a.num, vI a.suf]) rfl ag23 rfl pickX rfl rfl) rfl ?_
   refine RL.val (Wanted.free rfl) (V.loadAgg (us := [vI b.num, vI b.suf]) rfl ag23 rfl pickX rfl rfl) rfl ?_
   refine RL.cmp (Wanted.free rfl) (V.eqlLab (s := a) (s' := b) rfl rfl rfl) rfl (fun h86 => ?_) (fun h86 => ?_)
   ·
    refine RL.val (Wanted.free rfl) (V.move rfl rfl) rfl ?_
    refine RL.skip (Wanted.no rfl rfl rfl rfl rfl) rfl ?_
    refine RL.skip (Wanted.no rfl rfl rfl rfl rfl) rfl ?_
    refine RL.skip (Wanted.no rfl rfl rfl rfl rfl) rfl ?_
    refine RL.val (Wanted.free rfl) (V.pick_true rfl rfl rfl) rfl ?_
    refine RL.val (Wanted.free rfl) (V.move rfl rfl) rfl ?_
    refine RL.skip (Wanted.no rfl rfl rfl rfl rfl) rfl ?_
    refine RL.skip (Wanted.no rfl rfl rfl rfl rfl) rfl ?_
    refine RL.skip (Wanted.no rfl rfl rfl rfl rfl) rfl ?_
    refine RL.val (Wanted.free rfl) (V.pick_true rfl rfl rfl) rfl ?_
    refine RL.val (Wanted.free rfl) (V.move rfl rfl) rfl ?_
    refine RL.eff (Wanted.yes rfl rfl rfl rfl) (E.call rfl go18 rfl (lives_ok memX)) rfl ?_
    rintro _ _ ⟨rfl, rfl⟩
    refine RL.val (Wanted.free rfl) (V.pick_true rfl rfl rfl) rfl ?_
    refine RL.val (Wanted.free rfl) (V.assign rfl rfl) rfl ?_
    refine RL.nil ?_
    refine SG.retE (Ret.r1 Tryd.func5 rfl (.tmp rfl)) ?_ ⟨rfl, rfl⟩
    exact entX
   ·
    have hne : a ≠ b := h86
    refine RL.val (Wanted.free rfl) (V.move rfl rfl) rfl ?_
    refine RL.val (Wanted.yes rfl rfl rfl rfl) (V.loadAgg (us := [vI a.num, vI a.suf]) rfl ag23 rfl pickX rfl rfl) rfl ?_
    refine RL.val (Wanted.yes rfl rfl rfl rfl) (V.loadAgg (us := [vI b.num, vI b.suf]) rfl ag23 rfl pickX rfl rfl) rfl ?_
    refine RL.eff (Wanted.yes rfl rfl rfl rfl) (E.call rfl go22 rfl (lLess_ok (a := a) (b := b))) rfl ?_
    rintro _ _ ⟨rfl, rfl⟩
    refine RL.val (Wanted.free rfl) (V.pick_false rfl rfl rfl) rfl ?_
    refine RL.val (Wanted.free rfl) (V.move rfl rfl) rfl ?_
    refine RL.split 51 rfl (fun g97 => ?_) (fun g97 => ?_)
    ·
     refine RL.skip (Wanted.no rfl rfl rfl rfl rfl) rfl ?_
     refine RL.skip (Wanted.no rfl rfl rfl rfl rfl) rfl ?_
     refine RL.skip (Wanted.no rfl rfl rfl rfl rfl) rfl ?_
     refine RL.val (Wanted.free rfl) (V.pick_true rfl rfl rfl) rfl ?_
     refine RL.val (Wanted.free rfl) (V.move rfl rfl) rfl ?_
     refine RL.eff (Wanted.yes rfl rfl rfl rfl) (E.call rfl go18 rfl (lives_ok memX)) rfl ?_
     rintro _ _ ⟨rfl, rfl⟩
     refine RL.val (Wanted.free rfl) (V.pick_true rfl rfl rfl) rfl ?_
     refine RL.val (Wanted.free rfl) (V.assign rfl rfl) rfl ?_
     refine RL.nil ?_
     refine SG.retE (Ret.r1 Tryd.func5 rfl (.tmp rfl)) ?_ ⟨rfl, rfl⟩
     exact entX
    ·
     refine RL.val (Wanted.yes rfl rfl rfl rfl) (V.loadAgg (us := [vI b.num, vI b.suf]) rfl ag23 rfl pickX rfl rfl) rfl ?_
     refine RL.val (Wanted.yes rfl rfl rfl rfl) (V.loadAgg (us := [vI a.num, vI a.suf]) rfl ag23 rfl pickX rfl rfl) rfl ?_
     refine RL.eff (Wanted.yes rfl rfl rfl rfl) (E.call rfl go22 rfl (lLess_ok (a := b) (b := a))) rfl ?_
     rintro _ _ ⟨rfl, rfl⟩
     rw [decide_eq_true (before_total hne (of_decide_eq_false (by assumption)))]
     refine RL.val (Wanted.free rfl) (V.pick_false rfl rfl rfl) rfl ?_
     refine RL.val (Wanted.free rfl) (V.move rfl rfl) rfl ?_
     refine RL.eff (Wanted.yes rfl rfl rfl rfl) (E.call rfl go18 rfl (lives_ok memX)) rfl ?_
     rintro _ _ ⟨rfl, rfl⟩
     refine RL.val (Wanted.free rfl) (V.pick_true rfl rfl rfl) rfl ?_
     refine RL.val (Wanted.free rfl) (V.assign rfl rfl) rfl ?_
     refine RL.nil ?_
     refine SG.retE (Ret.r1 Tryd.func5 rfl (.tmp rfl)) ?_ ⟨rfl, rfl⟩
     exact entX
 ·
  refine RH.skip 17 rfl krX krX krX krX (Wanted.no rfl rfl rfl rfl rfl) rfl ?_
  refine RH.skip 18 rfl krX krX krX krX (Wanted.no rfl rfl rfl rfl rfl) rfl ?_
  refine RH.skip 19 rfl krX krX krX krX (Wanted.no rfl rfl rfl rfl rfl) rfl ?_
  refine RH.pure 20 rfl krX krX krX krX (Wanted.yes rfl rfl rfl rfl) (V.pick_false rfl rfl rfl) rfl ?_
  refine RH.pure 21 rfl krX krX krX krX (Wanted.free rfl) (V.pick_false rfl rfl rfl) rfl ?_
  refine RH.done krX ?_
  refine SG.cond_false rfl ?_
  refine SG.skip ?_
  refine SG.seq ?_
  refine SG.seq ?_
  refine SG.region ?_
  refine RL.val (Wanted.free rfl) (V.loadAgg (us := [vI a.num, vI a.suf]) rfl ag23 rfl pickX rfl rfl) rfl ?_
  refine RL.val (Wanted.free rfl) (V.loadAgg (us := [vI b.num, vI b.suf]) rfl ag23 rfl pickX rfl rfl) rfl ?_
  refine RL.eff (Wanted.free rfl) (E.call rfl go22 rfl (lLess_ok (a := a) (b := b))) rfl ?_
  rintro _ _ ⟨rfl, rfl⟩
  refine RL.val (Wanted.free rfl) (V.move rfl rfl) rfl ?_
  refine RL.split 32 rfl (fun g111 => ?_) (fun g111 => ?_)
  ·
   refine RL.val (Wanted.yes rfl rfl rfl rfl) (V.loadAgg (us := [vI b.num, vI b.suf]) rfl ag23 rfl pickX rfl rfl) rfl ?_
   refine RL.val (Wanted.yes rfl rfl rfl rfl) (V.loadAgg (us := [vI c.num, vI c.suf]) rfl ag23 rfl pickX rfl rfl) rfl ?_
   refine RL.eff (Wanted.yes rfl rfl rfl rfl) (E.call rfl go22 rfl (lLess_ok (a := b) (b := c))) rfl ?_
   rintro _ _ ⟨rfl, rfl⟩
   refine RL.val (Wanted.free rfl) (V.pick_true rfl rfl rfl) rfl ?_
   refine RL.val (Wanted.free rfl) (V.move rfl rfl) rfl ?_
   refine RL.split 37 rfl (fun g116 => ?_) (fun g116 => ?_)
   ·
    refine RL.val (Wanted.yes rfl rfl rfl rfl) (V.loadAgg (us := [vI a.num, vI a.suf]) rfl ag23 rfl pickX rfl rfl) rfl ?_
    refine RL.val (Wanted.yes rfl rfl rfl rfl) (V.loadAgg (us := [vI c.num, vI c.suf]) rfl ag23 rfl pickX rfl rfl) rfl ?_
    refine RL.eff (Wanted.yes rfl rfl rfl rfl) (E.call rfl go22 rfl (lLess_ok (a := a) (b := c))) rfl ?_
    rintro _ _ ⟨rfl, rfl⟩
    rw [decide_eq_true (before_trans (a := a) (b := b) (c := c) (of_decide_eq_true (by assumption)) (of_decide_eq_true (by assumption)))]
    refine RL.val (Wanted.yes rfl rfl rfl rfl) (V.not rfl rfl) rfl ?_
    refine RL.val (Wanted.free rfl) (V.pick_true rfl rfl rfl) rfl ?_
    refine RL.nil ?_
    refine SG.cond_false rfl ?_
    refine SG.skip ?_
    refine SG.seq ?_
    refine SG.region ?_
    refine RL.val (Wanted.free rfl) (V.loadAgg (us := [vI a.num, vI a.suf]) rfl ag23 rfl pickX rfl rfl) rfl ?_
    refine RL.val (Wanted.free rfl) (V.loadAgg (us := [vI b.num, vI b.suf]) rfl ag23 rfl pickX rfl rfl) rfl ?_
    refine RL.cmp (Wanted.free rfl) (V.eqlLab (s := a) (s' := b) rfl rfl rfl) rfl (fun h122 => ?_) (fun h122 => ?_)
    ·
     refine RL.val (Wanted.free rfl) (V.move rfl rfl) rfl ?_
     refine RL.skip (Wanted.no rfl rfl rfl rfl rfl) rfl ?_
     refine RL.skip (Wanted.no rfl rfl rfl rfl rfl) rfl ?_
     refine RL.skip (Wanted.no rfl rfl rfl rfl rfl) rfl ?_
     refine RL.val (Wanted.free rfl) (V.pick_true rfl rfl rfl) rfl ?_
     refine RL.val (Wanted.free rfl) (V.move rfl rfl) rfl ?_
     refine RL.skip (Wanted.no rfl rfl rfl rfl rfl) rfl ?_
     refine RL.skip (Wanted.no rfl rfl rfl rfl rfl) rfl ?_
     refine RL.skip (Wanted.no rfl rfl rfl rfl rfl) rfl ?_
     refine RL.val (Wanted.free rfl) (V.pick_true rfl rfl rfl) rfl ?_
     refine RL.val (Wanted.free rfl) (V.move rfl rfl) rfl ?_
     refine RL.eff (Wanted.yes rfl rfl rfl rfl) (E.call rfl go18 rfl (lives_ok memX)) rfl ?_
     rintro _ _ ⟨rfl, rfl⟩
     refine RL.val (Wanted.free rfl) (V.pick_true rfl rfl rfl) rfl ?_
     refine RL.val (Wanted.free rfl) (V.assign rfl rfl) rfl ?_
     refine RL.nil ?_
     refine SG.retE (Ret.r1 Tryd.func5 rfl (.tmp rfl)) ?_ ⟨rfl, rfl⟩
     exact entX
    ·
     have hne : a ≠ b := h122
     refine RL.val (Wanted.free rfl) (V.move rfl rfl) rfl ?_
     refine RL.val (Wanted.yes rfl rfl rfl rfl) (V.loadAgg (us := [vI a.num, vI a.suf]) rfl ag23 rfl pickX rfl rfl) rfl ?_
     refine RL.val (Wanted.yes rfl rfl rfl rfl) (V.loadAgg (us := [vI b.num, vI b.suf]) rfl ag23 rfl pickX rfl rfl) rfl ?_
     refine RL.eff (Wanted.yes rfl rfl rfl rfl) (E.call rfl go22 rfl (lLess_ok (a := a) (b := b))) rfl ?_
     rintro _ _ ⟨rfl, rfl⟩
     refine RL.val (Wanted.free rfl) (V.pick_false rfl rfl rfl) rfl ?_
     refine RL.val (Wanted.free rfl) (V.move rfl rfl) rfl ?_
     refine RL.split 51 rfl (fun g133 => ?_) (fun g133 => ?_)
     ·
      refine RL.skip (Wanted.no rfl rfl rfl rfl rfl) rfl ?_
      refine RL.skip (Wanted.no rfl rfl rfl rfl rfl) rfl ?_
      refine RL.skip (Wanted.no rfl rfl rfl rfl rfl) rfl ?_
      refine RL.val (Wanted.free rfl) (V.pick_true rfl rfl rfl) rfl ?_
      refine RL.val (Wanted.free rfl) (V.move rfl rfl) rfl ?_
      refine RL.eff (Wanted.yes rfl rfl rfl rfl) (E.call rfl go18 rfl (lives_ok memX)) rfl ?_
      rintro _ _ ⟨rfl, rfl⟩
      refine RL.val (Wanted.free rfl) (V.pick_true rfl rfl rfl) rfl ?_
      refine RL.val (Wanted.free rfl) (V.assign rfl rfl) rfl ?_
      refine RL.nil ?_
      refine SG.retE (Ret.r1 Tryd.func5 rfl (.tmp rfl)) ?_ ⟨rfl, rfl⟩
      exact entX
     ·
      refine RL.val (Wanted.yes rfl rfl rfl rfl) (V.loadAgg (us := [vI b.num, vI b.suf]) rfl ag23 rfl pickX rfl rfl) rfl ?_
      refine RL.val (Wanted.yes rfl rfl rfl rfl) (V.loadAgg (us := [vI a.num, vI a.suf]) rfl ag23 rfl pickX rfl rfl) rfl ?_
      refine RL.eff (Wanted.yes rfl rfl rfl rfl) (E.call rfl go22 rfl (lLess_ok (a := b) (b := a))) rfl ?_
      rintro _ _ ⟨rfl, rfl⟩
      rw [decide_eq_true (before_total hne (of_decide_eq_false (by assumption)))]
      refine RL.val (Wanted.free rfl) (V.pick_false rfl rfl rfl) rfl ?_
      refine RL.val (Wanted.free rfl) (V.move rfl rfl) rfl ?_
      refine RL.eff (Wanted.yes rfl rfl rfl rfl) (E.call rfl go18 rfl (lives_ok memX)) rfl ?_
      rintro _ _ ⟨rfl, rfl⟩
      refine RL.val (Wanted.free rfl) (V.pick_true rfl rfl rfl) rfl ?_
      refine RL.val (Wanted.free rfl) (V.assign rfl rfl) rfl ?_
      refine RL.nil ?_
      refine SG.retE (Ret.r1 Tryd.func5 rfl (.tmp rfl)) ?_ ⟨rfl, rfl⟩
      exact entX
   ·
    refine RL.skip (Wanted.no rfl rfl rfl rfl rfl) rfl ?_
    refine RL.skip (Wanted.no rfl rfl rfl rfl rfl) rfl ?_
    refine RL.skip (Wanted.no rfl rfl rfl rfl rfl) rfl ?_
    refine RL.skip (Wanted.no rfl rfl rfl rfl rfl) rfl ?_
    refine RL.val (Wanted.free rfl) (V.pick_false rfl rfl rfl) rfl ?_
    refine RL.nil ?_
    refine SG.cond_false rfl ?_
    refine SG.skip ?_
    refine SG.seq ?_
    refine SG.region ?_
    refine RL.val (Wanted.free rfl) (V.loadAgg (us := [vI a.num, vI a.suf]) rfl ag23 rfl pickX rfl rfl) rfl ?_
    refine RL.val (Wanted.free rfl) (V.loadAgg (us := [vI b.num, vI b.suf]) rfl ag23 rfl pickX rfl rfl) rfl ?_
    refine RL.cmp (Wanted.free rfl) (V.eqlLab (s := a) (s' := b) rfl rfl rfl) rfl (fun h145 => ?_) (fun h145 => ?_)
    ·
     refine RL.val (Wanted.free rfl) (V.move rfl rfl) rfl ?_
     refine RL.skip (Wanted.no rfl rfl rfl rfl rfl) rfl ?_
     refine RL.skip (Wanted.no rfl rfl rfl rfl rfl) rfl ?_
     refine RL.skip (Wanted.no rfl rfl rfl rfl rfl) rfl ?_
     refine RL.val (Wanted.free rfl) (V.pick_true rfl rfl rfl) rfl ?_
     refine RL.val (Wanted.free rfl) (V.move rfl rfl) rfl ?_
     refine RL.skip (Wanted.no rfl rfl rfl rfl rfl) rfl ?_
     refine RL.skip (Wanted.no rfl rfl rfl rfl rfl) rfl ?_
     refine RL.skip (Wanted.no rfl rfl rfl rfl rfl) rfl ?_
     refine RL.val (Wanted.free rfl) (V.pick_true rfl rfl rfl) rfl ?_
     refine RL.val (Wanted.free rfl) (V.move rfl rfl) rfl ?_
     refine RL.eff (Wanted.yes rfl rfl rfl rfl) (E.call rfl go18 rfl (lives_ok memX)) rfl ?_
     rintro _ _ ⟨rfl, rfl⟩
     refine RL.val (Wanted.free rfl) (V.pick_true rfl rfl rfl) rfl ?_
     refine RL.val (Wanted.free rfl) (V.assign rfl rfl) rfl ?_
     refine RL.nil ?_
     refine SG.retE (Ret.r1 Tryd.func5 rfl (.tmp rfl)) ?_ ⟨rfl, rfl⟩
     exact entX
    ·
     have hne : a ≠ b := h145
     refine RL.val (Wanted.free rfl) (V.move rfl rfl) rfl ?_
     refine RL.val (Wanted.yes rfl rfl rfl rfl) (V.loadAgg (us := [vI a.num, vI a.suf]) rfl ag23 rfl pickX rfl rfl) rfl ?_
     refine RL.val (Wanted.yes rfl rfl rfl rfl) (V.loadAgg (us := [vI b.num, vI b.suf]) rfl ag23 rfl pickX rfl rfl) rfl ?_
     refine RL.eff (Wanted.yes rfl rfl rfl rfl) (E.call rfl go22 rfl (lLess_ok (a := a) (b := b))) rfl ?_
     rintro _ _ ⟨rfl, rfl⟩
     refine RL.val (Wanted.free rfl) (V.pick_false rfl rfl rfl) rfl ?_
     refine RL.val (Wanted.free rfl) (V.move rfl rfl) rfl ?_
     refine RL.split 51 rfl (fun g156 => ?_) (fun g156 => ?_)
     ·
      refine RL.skip (Wanted.no rfl rfl rfl rfl rfl) rfl ?_
      refine RL.skip (Wanted.no rfl rfl rfl rfl rfl) rfl ?_
      refine RL.skip (Wanted.no rfl rfl rfl rfl rfl) rfl ?_
      refine RL.val (Wanted.free rfl) (V.pick_true rfl rfl rfl) rfl ?_
      refine RL.val (Wanted.free rfl) (V.move rfl rfl) rfl ?_
      refine RL.eff (Wanted.yes rfl rfl rfl rfl) (E.call rfl go18 rfl (lives_ok memX)) rfl ?_
      rintro _ _ ⟨rfl, rfl⟩
      refine RL.val (Wanted.free rfl) (V.pick_true rfl rfl rfl) rfl ?_
      refine RL.val (Wanted.free rfl) (V.assign rfl rfl) rfl ?_
      refine RL.nil ?_
      refine SG.retE (Ret.r1 Tryd.func5 rfl (.tmp rfl)) ?_ ⟨rfl, rfl⟩
      exact entX
     ·
      refine RL.val (Wanted.yes rfl rfl rfl rfl) (V.loadAgg (us := [vI b.num, vI b.suf]) rfl ag23 rfl pickX rfl rfl) rfl ?_
      refine RL.val (Wanted.yes rfl rfl rfl rfl) (V.loadAgg (us := [vI a.num, vI a.suf]) rfl ag23 rfl pickX rfl rfl) rfl ?_
      refine RL.eff (Wanted.yes rfl rfl rfl rfl) (E.call rfl go22 rfl (lLess_ok (a := b) (b := a))) rfl ?_
      rintro _ _ ⟨rfl, rfl⟩
      rw [decide_eq_true (before_total hne (of_decide_eq_false (by assumption)))]
      refine RL.val (Wanted.free rfl) (V.pick_false rfl rfl rfl) rfl ?_
      refine RL.val (Wanted.free rfl) (V.move rfl rfl) rfl ?_
      refine RL.eff (Wanted.yes rfl rfl rfl rfl) (E.call rfl go18 rfl (lives_ok memX)) rfl ?_
      rintro _ _ ⟨rfl, rfl⟩
      refine RL.val (Wanted.free rfl) (V.pick_true rfl rfl rfl) rfl ?_
      refine RL.val (Wanted.free rfl) (V.assign rfl rfl) rfl ?_
      refine RL.nil ?_
      refine SG.retE (Ret.r1 Tryd.func5 rfl (.tmp rfl)) ?_ ⟨rfl, rfl⟩
      exact entX
  ·
   refine RL.skip (Wanted.no rfl rfl rfl rfl rfl) rfl ?_
   refine RL.skip (Wanted.no rfl rfl rfl rfl rfl) rfl ?_
   refine RL.skip (Wanted.no rfl rfl rfl rfl rfl) rfl ?_
   refine RL.val (Wanted.free rfl) (V.pick_false rfl rfl rfl) rfl ?_
   refine RL.val (Wanted.free rfl) (V.move rfl rfl) rfl ?_
   refine RL.skip (Wanted.no rfl rfl rfl rfl rfl) rfl ?_
   refine RL.skip (Wanted.no rfl rfl rfl rfl rfl) rfl ?_
   refine RL.skip (Wanted.no rfl rfl rfl rfl rfl) rfl ?_
   refine RL.skip (Wanted.no rfl rfl rfl rfl rfl) rfl ?_
   refine RL.val (Wanted.free rfl) (V.pick_false rfl rfl rfl) rfl ?_
   refine RL.nil ?_
   refine SG.cond_false rfl ?_
   refine SG.skip ?_
   refine SG.seq ?_
   refine SG.region ?_
   refine RL.val (Wanted.free rfl) (V.loadAgg (us := [vI a.num, vI a.suf]) rfl ag23 rfl pickX rfl rfl) rfl ?_
   refine RL.val (Wanted.free rfl) (V.loadAgg (us := [vI b.num, vI b.suf]) rfl ag23 rfl pickX rfl rfl) rfl ?_
   refine RL.cmp (Wanted.free rfl) (V.eqlLab (s := a) (s' := b) rfl rfl rfl) rfl (fun h169 => ?_) (fun h169 => ?_)
   ·
    refine RL.val (Wanted.free rfl) (V.move rfl rfl) rfl ?_
    refine RL.skip (Wanted.no rfl rfl rfl rfl rfl) rfl ?_
    refine RL.skip (Wanted.no rfl rfl rfl rfl rfl) rfl ?_
    refine RL.skip (Wanted.no rfl rfl rfl rfl rfl) rfl ?_
    refine RL.val (Wanted.free rfl) (V.pick_true rfl rfl rfl) rfl ?_
    refine RL.val (Wanted.free rfl) (V.move rfl rfl) rfl ?_
    refine RL.skip (Wanted.no rfl rfl rfl rfl rfl) rfl ?_
    refine RL.skip (Wanted.no rfl rfl rfl rfl rfl) rfl ?_
    refine RL.skip (Wanted.no rfl rfl rfl rfl rfl) rfl ?_
    refine RL.val (Wanted.free rfl) (V.pick_true rfl rfl rfl) rfl ?_
    refine RL.val (Wanted.free rfl) (V.move rfl rfl) rfl ?_
    refine RL.eff (Wanted.yes rfl rfl rfl rfl) (E.call rfl go18 rfl (lives_ok memX)) rfl ?_
    rintro _ _ ⟨rfl, rfl⟩
    refine RL.val (Wanted.free rfl) (V.pick_true rfl rfl rfl) rfl ?_
    refine RL.val (Wanted.free rfl) (V.assign rfl rfl) rfl ?_
    refine RL.nil ?_
    refine SG.retE (Ret.r1 Tryd.func5 rfl (.tmp rfl)) ?_ ⟨rfl, rfl⟩
    exact entX
   ·
    have hne : a ≠ b := h169
    refine RL.val (Wanted.free rfl) (V.move rfl rfl) rfl ?_
    refine RL.val (Wanted.yes rfl rfl rfl rfl) (V.loadAgg (us := [vI a.num, vI a.suf]) rfl ag23 rfl pickX rfl rfl) rfl ?_
    refine RL.val (Wanted.yes rfl rfl rfl rfl) (V.loadAgg (us := [vI b.num, vI b.suf]) rfl ag23 rfl pickX rfl rfl) rfl ?_
    refine RL.eff (Wanted.yes rfl rfl rfl rfl) (E.call rfl go22 rfl (lLess_ok (a := a) (b := b))) rfl ?_
    rintro _ _ ⟨rfl, rfl⟩
    refine RL.val (Wanted.free rfl) (V.pick_false rfl rfl rfl) rfl ?_
    refine RL.val (Wanted.free rfl) (V.move rfl rfl) rfl ?_
    refine RL.split 51 rfl (fun g180 => ?_) (fun g180 => ?_)
    ·
     refine RL.skip (Wanted.no rfl rfl rfl rfl rfl) rfl ?_
     refine RL.skip (Wanted.no rfl rfl rfl rfl rfl) rfl ?_
     refine RL.skip (Wanted.no rfl rfl rfl rfl rfl) rfl ?_
     refine RL.val (Wanted.free rfl) (V.pick_true rfl rfl rfl) rfl ?_
     refine RL.val (Wanted.free rfl) (V.move rfl rfl) rfl ?_
     refine RL.eff (Wanted.yes rfl rfl rfl rfl) (E.call rfl go18 rfl (lives_ok memX)) rfl ?_
     rintro _ _ ⟨rfl, rfl⟩
     refine RL.val (Wanted.free rfl) (V.pick_true rfl rfl rfl) rfl ?_
     refine RL.val (Wanted.free rfl) (V.assign rfl rfl) rfl ?_
     refine RL.nil ?_
     refine SG.retE (Ret.r1 Tryd.func5 rfl (.tmp rfl)) ?_ ⟨rfl, rfl⟩
     exact entX
    ·
     refine RL.val (Wanted.yes rfl rfl rfl rfl) (V.loadAgg (us := [vI b.num, vI b.suf]) rfl ag23 rfl pickX rfl rfl) rfl ?_
     refine RL.val (Wanted.yes rfl rfl rfl rfl) (V.loadAgg (us := [vI a.num, vI a.suf]) rfl ag23 rfl pickX rfl rfl) rfl ?_
     refine RL.eff (Wanted.yes rfl rfl rfl rfl) (E.call rfl go22 rfl (lLess_ok (a := b) (b := a))) rfl ?_
     rintro _ _ ⟨rfl, rfl⟩
     rw [decide_eq_true (before_total hne (of_decide_eq_false (by assumption)))]
     refine RL.val (Wanted.free rfl) (V.pick_false rfl rfl rfl) rfl ?_
     refine RL.val (Wanted.free rfl) (V.move rfl rfl) rfl ?_
     refine RL.eff (Wanted.yes rfl rfl rfl rfl) (E.call rfl go18 rfl (lives_ok memX)) rfl ?_
     rintro _ _ ⟨rfl, rfl⟩
     refine RL.val (Wanted.free rfl) (V.pick_true rfl rfl rfl) rfl ?_
     refine RL.val (Wanted.free rfl) (V.assign rfl rfl) rfl ?_
     refine RL.nil ?_
     refine SG.retE (Ret.r1 Tryd.func5 rfl (.tmp rfl)) ?_ ⟨rfl, rfl⟩
     exact entX

set_option maxRecDepth 100000 in
set_option maxHeartbeats 1000000 in
theorem round_law {κ : World} {L : List Assn} {n k : Int} (hn : inInt n) (hk : inInt k) {s : List UInt8} (hT : Glob 0 pows ∈ L) :
    Ctr Tryd.prog 6 #[vI n, vI k, vS s] κ L (fun v M => v = vB true ∧ M = L) := by
 refine Ctr.enter (vs := [vI n, vI k, vS s]) (m := 54) Tryd.func6 rfl rfl rfl ?_
 refine SG.seq ?_
 refine SG.region ?_
 refine RL.val (Wanted.free rfl) (V.assign rfl rfl) rfl ?_
 refine RL.nil ?_
 refine SG.seq ?_
 refine SG.region ?_
 refine RL.val (Wanted.free rfl) (V.move rfl rfl) rfl ?_
 refine RL.val (Wanted.free rfl) (V.move rfl rfl) rfl ?_
 refine RL.eff (Wanted.free rfl) (E.call rfl go24 rfl (label_ok (n := n) (k := k) (by assumption) (by assumption))) rfl ?_
 rintro _ _ ⟨rfl, rfl⟩
 refine RL.eff (Wanted.free rfl) (E.alloc rfl ze23) rfl ?_
 rintro _ _ ⟨b7, rfl, rfl⟩
 refine RL.eff (Wanted.free rfl) (E.storeWhole rfl rfl rfl (by rfl) sz23 pickX (by first | (simp [Value.oneCell']; done) | (simp [setAt, Value.oneCell']; done)) (by rfl)) rfl ?_
 rintro _ _ rfl
 refine RL.nil ?_
 refine SG.seq ?_
 have hok := labOf_ok n k
 refine SG.region ?_
 refine RL.val (Wanted.free rfl) (V.loadAgg (us := [vI (labOf n k).num, vI (labOf n k).suf]) rfl ag23 rfl pickX rfl rfl) rfl ?_
 refine RL.eff (Wanted.free rfl) (E.call rfl go16 rfl (lText_ok (l := (labOf n k)) memX)) rfl ?_
 rintro _ _ ⟨rfl, rfl⟩
 refine RL.eff (Wanted.free rfl) (E.call rfl go20 rfl (lParse_ok (s := textV (labOf n k)))) rfl ?_
 rintro _ _ ⟨rfl, rfl⟩
 rw [parse_text hok]
 refine RL.val (Wanted.free rfl) (V.move rfl rfl) rfl ?_
 refine RL.val (Wanted.free rfl) (V.extract rfl rfl rfl) rfl ?_
 refine RL.val (Wanted.free rfl) (V.extract rfl rfl rfl) rfl ?_
 refine RL.eff (Wanted.free rfl) (E.alloc rfl ze23) rfl ?_
 rintro _ _ ⟨b8, rfl, rfl⟩
 refine RL.eff (Wanted.free rfl) (E.storeWhole rfl rfl rfl (by rfl) sz23 pickX (by first | (simp [Value.oneCell']; done) | (simp [setAt, Value.oneCell']; done)) (by rfl)) rfl ?_
 rintro _ _ rfl
 refine RL.val (Wanted.free rfl) (V.assign rfl rfl) rfl ?_
 refine RL.nil ?_
 refine SG.seq ?_
 refine SG.region ?_
 refine RL.val (Wanted.free rfl) (V.move rfl rfl) rfl ?_
 refine RL.eff (Wanted.free rfl) (E.call rfl go19 rfl (short_ok (s := s) (k := 20) (by omega))) rfl ?_
 rintro _ _ ⟨rfl, rfl⟩
 refine RL.val (Wanted.free rfl) (V.assign rfl rfl) rfl ?_
 refine RL.nil ?_
 refine SG.seq ?_
 refine SG.region ?_
 refine RL.val (Wanted.free rfl) (V.move rfl rfl) rfl ?_
 refine RL.eff (Wanted.free rfl) (E.call rfl go20 rfl (lParse_ok (s := (s.take 20)))) rfl ?_
 rintro _ _ ⟨rfl, rfl⟩
 refine RL.val (Wanted.free rfl) (V.move rfl rfl) rfl ?_
 refine RL.val (Wanted.free rfl) (V.extract rfl rfl rfl) rfl ?_
 refine RL.val (Wanted.free rfl) (V.extract rfl rfl rfl) rfl ?_
 refine RL.eff (Wanted.free rfl) (E.alloc rfl ze23) rfl ?_
 rintro _ _ ⟨b11, rfl, rfl⟩
 refine RL.eff (Wanted.free rfl) (E.storeWhole rfl rfl rfl (by rfl) sz23 pickX (by first | (simp [Value.oneCell']; done) | (simp [setAt, Value.oneCell']; done)) (by rfl)) rfl ?_
 rintro _ _ rfl
 refine RL.val (Wanted.free rfl) (V.assign rfl rfl) rfl ?_
 refine RL.nil ?_
 refine SG.seq ?_
 refine SG.region ?_
 refine RL.val (Wanted.free rfl) (V.loadAgg (us := [vI (labOf n k).num, vI (labOf n k).suf]) rfl ag23 rfl pickX rfl rfl) rfl ?_
 refine RL.val (Wanted.free rfl) (V.loadAgg (us := [vI (labOf n k).num, vI (labOf n k).suf]) rfl ag23 rfl pickX rfl rfl) rfl ?_
 refine RL.cmpT (Wanted.free rfl) (V.eqlLab (s := (labOf n k)) (s' := (labOf n k)) rfl rfl rfl) rfl rfl ?_
 refine RL.val (Wanted.free rfl) (V.move rfl rfl) rfl ?_
 refine RL.val (Wanted.yes rfl rfl rfl rfl) (V.move rfl rfl) rfl ?_
 refine RL.cmpT (Wanted.yes rfl rfl rfl rfl) (V.bin rfl rfl rfl B.eql) rfl rfl ?_
 refine RL.val (Wanted.free rfl) (V.pick_true rfl rfl rfl) rfl ?_
 refine RL.val (Wanted.free rfl) (V.move rfl rfl) rfl ?_
 refine RL.val (Wanted.yes rfl rfl rfl rfl) (V.move rfl rfl) rfl ?_
 refine RL.cmp (Wanted.yes rfl rfl rfl rfl) (V.bin rfl rfl rfl B.neq) rfl (fun h33 => ?_) (fun h33 => ?_)
 ·
  refine RL.val (Wanted.yes rfl rfl rfl rfl) (V.move rfl rfl) rfl ?_
  refine RL.skip (Wanted.no rfl rfl rfl rfl rfl) rfl ?_
  refine RL.skip (Wanted.no rfl rfl rfl rfl rfl) rfl ?_
  refine RL.skip (Wanted.no rfl rfl rfl rfl rfl) rfl ?_
  refine RL.skip (Wanted.no rfl rfl rfl rfl rfl) rfl ?_
  refine RL.skip (Wanted.no rfl rfl rfl rfl rfl) rfl ?_
  refine RL.skip (Wanted.un rfl rfl rfl) rfl ?_
  refine RL.skip (Wanted.un rfl rfl rfl) rfl ?_
  refine RL.skip (Wanted.un rfl rfl rfl) rfl ?_
  refine RL.skip (Wanted.no rfl rfl rfl rfl rfl) rfl ?_
  refine RL.val (Wanted.yes rfl rfl rfl rfl) (V.pick_true rfl rfl rfl) rfl ?_
  refine RL.val (Wanted.free rfl) (V.pick_true rfl rfl rfl) rfl ?_
  refine RL.val (Wanted.free rfl) (V.move rfl rfl) rfl ?_
  refine RL.eff (Wanted.yes rfl rfl rfl rfl) (E.call rfl go18 rfl (lives_ok memX)) rfl ?_
  rintro _ _ ⟨rfl, rfl⟩
  refine RL.val (Wanted.free rfl) (V.pick_true rfl rfl rfl) rfl ?_
  refine RL.val (Wanted.free rfl) (V.assign rfl rfl) rfl ?_
  refine RL.nil ?_
  refine SG.retE (Ret.r1 Tryd.func6 rfl (.tmp rfl)) ?_ ⟨rfl, rfl⟩
  exact entX
 ·
  obtain ⟨hpk, hpt⟩ := text_parse (eF := 7) (eR := 5) (by decide) (by decide) (Decidable.byContradiction fun e => h33 e)
  refine RL.val (Wanted.yes rfl rfl rfl rfl) (V.move rfl rfl) rfl ?_
  refine RL.val (Wanted.yes rfl rfl rfl rfl) (V.loadAgg (us := [vI (parseV 7 5 (s.take 20)).1.num, vI (parseV 7 5 (s.take 20)).1.suf]) rfl ag23 rfl pickX rfl rfl) rfl ?_
  refine RL.eff (Wanted.yes rfl rfl rfl rfl) (E.call rfl go16 rfl (lText_ok (l := (parseV 7 5 (s.take 20)).1) memX)) rfl ?_
  rintro _ _ ⟨rfl, rfl⟩
  rw [hpt]
  refine RL.val (Wanted.yes rfl rfl rfl rfl) (V.move rfl rfl) rfl ?_
  refine RL.cmpT (Wanted.yes rfl rfl rfl rfl) (V.bin rfl rfl rfl B.eqlS) rfl rfl ?_
  refine RL.val (Wanted.yes rfl rfl rfl rfl) (V.move rfl rfl) rfl ?_
  refine RL.val (Wanted.yes rfl rfl rfl rfl) (V.loadAgg (us := [vI (parseV 7 5 (s.take 20)).1.num, vI (parseV 7 5 (s.take 20)).1.suf]) rfl ag23 rfl pickX rfl rfl) rfl ?_
  refine RL.eff (Wanted.yes rfl rfl rfl rfl) (E.call rfl go14 rfl (lCheck_ok (l := (parseV 7 5 (s.take 20)).1))) rfl ?_
  rintro _ _ ⟨rfl, rfl⟩
  rw [check_yes hpk]
  refine RL.cmpT (Wanted.yes rfl rfl rfl rfl) (V.bin rfl rfl rfl B.eql) rfl rfl ?_
  refine RL.val (Wanted.yes rfl rfl rfl rfl) (V.pick_true rfl rfl rfl) rfl ?_
  refine RL.val (Wanted.yes rfl rfl rfl rfl) (V.pick_false rfl rfl rfl) rfl ?_
  refine RL.val (Wanted.free rfl) (V.pick_true rfl rfl rfl) rfl ?_
  refine RL.val (Wanted.free rfl) (V.move rfl rfl) rfl ?_
  refine RL.eff (Wanted.yes rfl rfl rfl rfl) (E.call rfl go18 rfl (lives_ok memX)) rfl ?_
  rintro _ _ ⟨rfl, rfl⟩
  refine RL.val (Wanted.free rfl) (V.pick_true rfl rfl rfl) rfl ?_
  refine RL.val (Wanted.free rfl) (V.assign rfl rfl) rfl ?_
  refine RL.nil ?_
  refine SG.retE (Ret.r1 Tryd.func6 rfl (.tmp rfl)) ?_ ⟨rfl, rfl⟩
  exact entX

set_option maxRecDepth 100000 in
set_option maxHeartbeats 1000000 in
theorem texts_law {κ : World} {L : List Assn} {n k m : Int} (hn : inInt n) (hk : inInt k) (hm : inInt m) (hT : Glob 0 pows ∈ L) :
    Ctr Tryd.prog 7 #[vI n, vI k, vI m] κ L (fun v M => v = vB true ∧ M = L) := by
 refine Ctr.enter (vs := [vI n, vI k, vI m]) (m := 56) Tryd.func7 rfl rfl rfl ?_
 refine SG.seq ?_
 refine SG.region ?_
 refine RL.val (Wanted.free rfl) (V.assign rfl rfl) rfl ?_
 refine RL.nil ?_
 refine SG.seq ?_
 refine SG.region ?_
 refine RL.val (Wanted.free rfl) (V.move rfl rfl) rfl ?_
 refine RL.val (Wanted.free rfl) (V.move rfl rfl) rfl ?_
 refine RL.eff (Wanted.free rfl) (E.call rfl go24 rfl (label_ok (n := n) (k := k) (by assumption) (by assumption))) rfl ?_
 rintro _ _ ⟨rfl, rfl⟩
 refine RL.eff (Wanted.free rfl) (E.alloc rfl ze23) rfl ?_
 rintro _ _ ⟨b7, rfl, rfl⟩
 refine RL.eff (Wanted.free rfl) (E.storeWhole rfl rfl rfl (by rfl) sz23 pickX (by first | (simp [Value.oneCell']; done) | (simp [setAt, Value.oneCell']; done)) (by rfl)) rfl ?_
 rintro _ _ rfl
 refine RL.nil ?_
 refine SG.seq ?_
 refine SG.region ?_
 refine RL.val (Wanted.free rfl) (V.move rfl rfl) rfl ?_
 refine RL.val (Wanted.free rfl) (V.move rfl rfl) rfl ?_
 refine RL.eff (Wanted.free rfl) (E.call rfl go24 rfl (label_ok (n := n) (k := m) (by assumption) (by assumption))) rfl ?_
 rintro _ _ ⟨rfl, rfl⟩
 refine RL.eff (Wanted.free rfl) (E.alloc rfl ze23) rfl ?_
 rintro _ _ ⟨b8, rfl, rfl⟩
 refine RL.eff (Wanted.free rfl) (E.storeWhole rfl rfl rfl (by rfl) sz23 pickX (by first | (simp [Value.oneCell']; done) | (simp [setAt, Value.oneCell']; done)) (by rfl)) rfl ?_
 rintro _ _ rfl
 refine RL.nil ?_
 refine SG.seq ?_
 have hok := labOf_ok n k
 have hok2 := labOf_ok n m
 have hbt := before_text hok hok2 rfl
 have hl1 := text_len (l := labOf n k)
 have hl2 := text_len (l := labOf n m)
 refine SG.region ?_
 refine RL.val (Wanted.free rfl) (V.loadAgg (us := [vI (labOf n k).num, vI (labOf n k).suf]) rfl ag23 rfl pickX rfl rfl) rfl ?_
 refine RL.eff (Wanted.free rfl) (E.call rfl go16 rfl (lText_ok (l := (labOf n k)) memX)) rfl ?_
 rintro _ _ ⟨rfl, rfl⟩
 refine RL.val (Wanted.free rfl) (V.assign rfl rfl) rfl ?_
 refine RL.nil ?_
 refine SG.seq ?_
 refine SG.region ?_
 refine RL.val (Wanted.free rfl) (V.loadAgg (us := [vI (labOf n m).num, vI (labOf n m).suf]) rfl ag23 rfl pickX rfl rfl) rfl ?_
 refine RL.eff (Wanted.free rfl) (E.call rfl go16 rfl (lText_ok (l := (labOf n m)) memX)) rfl ?_
 rintro _ _ ⟨rfl, rfl⟩
 refine RL.val (Wanted.free rfl) (V.assign rfl rfl) rfl ?_
 refine RL.nil ?_
 refine SG.seq ?_
 refine SG.region ?_
 refine RL.val (Wanted.free rfl) (V.move rfl rfl) rfl ?_
 refine RL.val (Wanted.free rfl) (V.lenS rfl rfl us9 rfl) rfl ?_
 refine RL.val (Wanted.free rfl) (V.move rfl rfl) rfl ?_
 refine RL.val (Wanted.free rfl) (V.lenS rfl rfl us9 rfl) rfl ?_
 refine RL.cmp (Wanted.free rfl) (V.bin rfl rfl rfl B.lss) rfl (fun h22 => ?_) (fun h22 => ?_)
 ·
  refine RL.val (Wanted.free rfl) (V.move rfl rfl) rfl ?_
  refine RL.skip (Wanted.no rfl rfl rfl rfl rfl) rfl ?_
  refine RL.skip (Wanted.no rfl rfl rfl rfl rfl) rfl ?_
  refine RL.skip (Wanted.no rfl rfl rfl rfl rfl) rfl ?_
  refine RL.skip (Wanted.no rfl rfl rfl rfl rfl) rfl ?_
  refine RL.skip (Wanted.no rfl rfl rfl rfl rfl) rfl ?_
  refine RL.skip (Wanted.no rfl rfl rfl rfl rfl) rfl ?_
  refine RL.skip (Wanted.un rfl rfl rfl) rfl ?_
  refine RL.skip (Wanted.un rfl rfl rfl) rfl ?_
  refine RL.skip (Wanted.un rfl rfl rfl) rfl ?_
  refine RL.skip (Wanted.no rfl rfl rfl rfl rfl) rfl ?_
  refine RL.val (Wanted.free rfl) (V.pick_true rfl rfl rfl) rfl ?_
  refine RL.val (Wanted.free rfl) (V.assign rfl rfl) rfl ?_
  refine RL.nil ?_
  refine SG.seq ?_
  refine SG.region ?_
  refine RL.val (Wanted.free rfl) (V.loadAgg (us := [vI (labOf n k).num, vI (labOf n k).suf]) rfl ag23 rfl pickX rfl rfl) rfl ?_
  refine RL.val (Wanted.free rfl) (V.loadAgg (us := [vI (labOf n m).num, vI (labOf n m).suf]) rfl ag23 rfl pickX rfl rfl) rfl ?_
  refine RL.eff (Wanted.free rfl) (E.call rfl go22 rfl (lLess_ok (a := (labOf n k)) (b := (labOf n m)))) rfl ?_
  rintro _ _ ⟨rfl, rfl⟩
  rw [hbt]
  refine RL.val (Wanted.free rfl) (V.move rfl rfl) rfl ?_
  refine RL.cmpT (Wanted.free rfl) (V.eqlBool rfl ub4 rfl rfl) rfl (by first | exact decide_eq_true (.inl (by omega)) | exact sooner_eq (by omega) | exact sooner_gt (by omega) (by omega)) ?_
  refine RL.val (Wanted.free rfl) (V.move rfl rfl) rfl ?_
  refine RL.val (Wanted.yes rfl rfl rfl rfl) (V.move rfl rfl) rfl ?_
  refine RL.val (Wanted.yes rfl rfl rfl rfl) (V.move rfl rfl) rfl ?_
  refine RL.cmp (Wanted.yes rfl rfl rfl rfl) (V.bin rfl rfl rfl B.eqlS) rfl (fun h32 => ?_) (fun h32 => ?_)
  ·
   have hte : textV (labOf n k) = textV (labOf n m) := h32
   refine RL.val (Wanted.yes rfl rfl rfl rfl) (V.loadAgg (us := [vI (labOf n k).num, vI (labOf n k).suf]) rfl ag23 rfl pickX rfl rfl) rfl ?_
   refine RL.val (Wanted.yes rfl rfl rfl rfl) (V.loadAgg (us := [vI (labOf n m).num, vI (labOf n m).suf]) rfl ag23 rfl pickX rfl rfl) rfl ?_
   refine RL.cmpT (Wanted.yes rfl rfl rfl rfl) (V.eqlLab (s := (labOf n k)) (s' := (labOf n m)) rfl rfl rfl) rfl (text_inj hok hok2 hte) ?_
   refine RL.cmpT (Wanted.yes rfl rfl rfl rfl) (V.eqlBool rfl ub4 rfl rfl) rfl rfl ?_
   refine RL.val (Wanted.free rfl) (V.pick_true rfl rfl rfl) rfl ?_
   refine RL.val (Wanted.free rfl) (V.move rfl rfl) rfl ?_
   refine RL.eff (Wanted.yes rfl rfl rfl rfl) (E.call rfl go18 rfl (lives_ok memX)) rfl ?_
   rintro _ _ ⟨rfl, rfl⟩
   refine RL.val (Wanted.free rfl) (V.pick_true rfl rfl rfl) rfl ?_
   refine RL.val (Wanted.free rfl) (V.assign rfl rfl) rfl ?_
   refine RL.nil ?_
   refine SG.retE (Ret.r1 Tryd.func7 rfl (.tmp rfl)) ?_ ⟨rfl, rfl⟩
   exact entX
  ·
   have hte : ¬ textV (labOf n k) = textV (labOf n m) := h32
   refine RL.val (Wanted.yes rfl rfl rfl rfl) (V.loadAgg (us := [vI (labOf n k).num, vI (labOf n k).suf]) rfl ag23 rfl pickX rfl rfl) rfl ?_
   refine RL.val (Wanted.yes rfl rfl rfl rfl) (V.loadAgg (us := [vI (labOf n m).num, vI (labOf n m).suf]) rfl ag23 rfl pickX rfl rfl) rfl ?_
   refine RL.cmpF (Wanted.yes rfl rfl rfl rfl) (V.eqlLab (s := (labOf n k)) (s' := (labOf n m)) rfl rfl rfl) rfl (fun e => hte (by rw [e])) ?_
   refine RL.cmpT (Wanted.yes rfl rfl rfl rfl) (V.eqlBool rfl ub4 rfl rfl) rfl rfl ?_
   refine RL.val (Wanted.free rfl) (V.pick_true rfl rfl rfl) rfl ?_
   refine RL.val (Wanted.free rfl) (V.move rfl rfl) rfl ?_
   refine RL.eff (Wanted.yes rfl rfl rfl rfl) (E.call rfl go18 rfl (lives_ok memX)) rfl ?_
   rintro _ _ ⟨rfl, rfl⟩
   refine RL.val (Wanted.free rfl) (V.pick_true rfl rfl rfl) rfl ?_
   refine RL.val (Wanted.free rfl) (V.assign rfl rfl) rfl ?_
   refine RL.nil ?_
   refine SG.retE (Ret.r1 Tryd.func7 rfl (.tmp rfl)) ?_ ⟨rfl, rfl⟩
   exact entX
 ·
  refine RL.val (Wanted.free rfl) (V.move rfl rfl) rfl ?_
  refine RL.val (Wanted.yes rfl rfl rfl rfl) (V.move rfl rfl) rfl ?_
  refine RL.val (Wanted.yes rfl rfl rfl rfl) (V.lenS rfl rfl us9 rfl) rfl ?_
  refine RL.val (Wanted.yes rfl rfl rfl rfl) (V.move rfl rfl) rfl ?_
  refine RL.val (Wanted.yes rfl rfl rfl rfl) (V.lenS rfl rfl us9 rfl) rfl ?_
  refine RL.cmp (Wanted.yes rfl rfl rfl rfl) (V.bin rfl rfl rfl B.eql) rfl (fun h48 => ?_) (fun h48 => ?_)
  ·
   refine RL.val (Wanted.yes rfl rfl rfl rfl) (V.move rfl rfl) rfl ?_
   refine RL.val (Wanted.yes rfl rfl rfl rfl) (V.move rfl rfl) rfl ?_
   refine RL.val (Wanted.yes rfl rfl rfl rfl) (V.move rfl rfl) rfl ?_
   refine RL.val (Wanted.yes rfl rfl rfl rfl) (V.bin rfl rfl rfl B.lssS) rfl ?_
   refine RL.val (Wanted.yes rfl rfl rfl rfl) (V.pick_true rfl rfl rfl) rfl ?_
   refine RL.val (Wanted.free rfl) (V.pick_false rfl rfl rfl) rfl ?_
   refine RL.val (Wanted.free rfl) (V.assign rfl rfl) rfl ?_
   refine RL.nil ?_
   refine SG.seq ?_
   refine SG.region ?_
   refine RL.val (Wanted.free rfl) (V.loadAgg (us := [vI (labOf n k).num, vI (labOf n k).suf]) rfl ag23 rfl pickX rfl rfl) rfl ?_
   refine RL.val (Wanted.free rfl) (V.loadAgg (us := [vI (labOf n m).num, vI (labOf n m).suf]) rfl ag23 rfl pickX rfl rfl) rfl ?_
   refine RL.eff (Wanted.free rfl) (E.call rfl go22 rfl (lLess_ok (a := (labOf n k)) (b := (labOf n m)))) rfl ?_
   rintro _ _ ⟨rfl, rfl⟩
   rw [hbt]
   refine RL.val (Wanted.free rfl) (V.move rfl rfl) rfl ?_
   refine RL.cmpT (Wanted.free rfl) (V.eqlBool rfl ub4 rfl rfl) rfl (by first | exact decide_eq_true (.inl (by omega)) | exact sooner_eq (by omega) | exact sooner_gt (by omega) (by omega)) ?_
   refine RL.val (Wanted.free rfl) (V.move rfl rfl) rfl ?_
   refine RL.val (Wanted.yes rfl rfl rfl rfl) (V.move rfl rfl) rfl ?_
   refine RL.val (Wanted.yes rfl rfl rfl rfl) (V.move rfl rfl) rfl ?_
   refine RL.cmp (Wanted.yes rfl rfl rfl rfl) (V.bin rfl rfl rfl B.eqlS) rfl (fun h61 => ?_) (fun h61 => ?_)
   ·
    have hte : textV (labOf n k) = textV (labOf n m) := h61
    refine RL.val (Wanted.yes rfl rfl rfl rfl) (V.loadAgg (us := [vI (labOf n k).num, vI (labOf n k).suf]) rfl ag23 rfl pickX rfl rfl) rfl ?_
    refine RL.val (Wanted.yes rfl rfl rfl rfl) (V.loadAgg (us := [vI (labOf n m).num, vI (labOf n m).suf]) rfl ag23 rfl pickX rfl rfl) rfl ?_
    refine RL.cmpT (Wanted.yes rfl rfl rfl rfl) (V.eqlLab (s := (labOf n k)) (s' := (labOf n m)) rfl rfl rfl) rfl (text_inj hok hok2 hte) ?_
    refine RL.cmpT (Wanted.yes rfl rfl rfl rfl) (V.eqlBool rfl ub4 rfl rfl) rfl rfl ?_
    refine RL.val (Wanted.free rfl) (V.pick_true rfl rfl rfl) rfl ?_
    refine RL.val (Wanted.free rfl) (V.move rfl rfl) rfl ?_
    refine RL.eff (Wanted.yes rfl rfl rfl rfl) (E.call rfl go18 rfl (lives_ok memX)) rfl ?_
    rintro _ _ ⟨rfl, rfl⟩
    refine RL.val (Wanted.free rfl) (V.pick_true rfl rfl rfl) rfl ?_
    refine RL.val (Wanted.free rfl) (V.assign rfl rfl) rfl ?_
    refine RL.nil ?_
    refine SG.retE (Ret.r1 Tryd.func7 rfl (.tmp rfl)) ?_ ⟨rfl, rfl⟩
    exact entX
   ·
    have hte : ¬ textV (labOf n k) = textV (labOf n m) := h61
    refine RL.val (Wanted.yes rfl rfl rfl rfl) (V.loadAgg (us := [vI (labOf n k).num, vI (labOf n k).suf]) rfl ag23 rfl pickX rfl rfl) rfl ?_
    refine RL.val (Wanted.yes rfl rfl rfl rfl) (V.loadAgg (us := [vI (labOf n m).num, vI (labOf n m).suf]) rfl ag23 rfl pickX rfl rfl) rfl ?_
    refine RL.cmpF (Wanted.yes rfl rfl rfl rfl) (V.eqlLab (s := (labOf n k)) (s' := (labOf n m)) rfl rfl rfl) rfl (fun e => hte (by rw [e])) ?_
    refine RL.cmpT (Wanted.yes rfl rfl rfl rfl) (V.eqlBool rfl ub4 rfl rfl) rfl rfl ?_
    refine RL.val (Wanted.free rfl) (V.pick_true rfl rfl rfl) rfl ?_
    refine RL.val (Wanted.free rfl) (V.move rfl rfl) rfl ?_
    refine RL.eff (Wanted.yes rfl rfl rfl rfl) (E.call rfl go18 rfl (lives_ok memX)) rfl ?_
    rintro _ _ ⟨rfl, rfl⟩
    refine RL.val (Wanted.free rfl) (V.pick_true rfl rfl rfl) rfl ?_
    refine RL.val (Wanted.free rfl) (V.assign rfl rfl) rfl ?_
    refine RL.nil ?_
    refine SG.retE (Ret.r1 Tryd.func7 rfl (.tmp rfl)) ?_ ⟨rfl, rfl⟩
    exact entX
  ·
   refine RL.val (Wanted.yes rfl rfl rfl rfl) (V.move rfl rfl) rfl ?_
   refine RL.skip (Wanted.no rfl rfl rfl rfl rfl) rfl ?_
   refine RL.skip (Wanted.no rfl rfl rfl rfl rfl) rfl ?_
   refine RL.skip (Wanted.no rfl rfl rfl rfl rfl) rfl ?_
   refine RL.val (Wanted.yes rfl rfl rfl rfl) (V.pick_false rfl rfl rfl) rfl ?_
   refine RL.val (Wanted.free rfl) (V.pick_false rfl rfl rfl) rfl ?_
   refine RL.val (Wanted.free rfl) (V.assign rfl rfl) rfl ?_
   refine RL.nil ?_
   refine SG.seq ?_
   refine SG.region ?_
   refine RL.val (Wanted.free rfl) (V.loadAgg (us := [vI (labOf n k).num, vI (labOf n k).suf]) rfl ag23 rfl pickX rfl rfl) rfl ?_
   refine RL.val (Wanted.free rfl) (V.loadAgg (us := [vI (labOf n m).num, vI (labOf n m).suf]) rfl ag23 rfl pickX rfl rfl) rfl ?_
   refine RL.eff (Wanted.free rfl) (E.call rfl go22 rfl (lLess_ok (a := (labOf n k)) (b := (labOf n m)))) rfl ?_
   rintro _ _ ⟨rfl, rfl⟩
   rw [hbt]
   refine RL.val (Wanted.free rfl) (V.move rfl rfl) rfl ?_
   refine RL.cmpT (Wanted.free rfl) (V.eqlBool rfl ub4 rfl rfl) rfl (by first | exact decide_eq_true (.inl (by omega)) | exact sooner_eq (by omega) | exact sooner_gt (by omega) (by omega)) ?_
   refine RL.val (Wanted.free rfl) (V.move rfl rfl) rfl ?_
   refine RL.val (Wanted.yes rfl rfl rfl rfl) (V.move rfl rfl) rfl ?_
   refine RL.val (Wanted.yes rfl rfl rfl rfl) (V.move rfl rfl) rfl ?_
   refine RL.cmp (Wanted.yes rfl rfl rfl rfl) (V.bin rfl rfl rfl B.eqlS) rfl (fun h81 => ?_) (fun h81 => ?_)
   ·
    have hte : textV (labOf n k) = textV (labOf n m) := h81
    refine RL.val (Wanted.yes rfl rfl rfl rfl) (V.loadAgg (us := [vI (labOf n k).num, vI (labOf n k).suf]) rfl ag23 rfl pickX rfl rfl) rfl ?_
    refine RL.val (Wanted.yes rfl rfl rfl rfl) (V.loadAgg (us := [vI (labOf n m).num, vI (labOf n m).suf]) rfl ag23 rfl pickX rfl rfl) rfl ?_
    refine RL.cmpT (Wanted.yes rfl rfl rfl rfl) (V.eqlLab (s := (labOf n k)) (s' := (labOf n m)) rfl rfl rfl) rfl (text_inj hok hok2 hte) ?_
    refine RL.cmpT (Wanted.yes rfl rfl rfl rfl) (V.eqlBool rfl ub4 rfl rfl) rfl rfl ?_
    refine RL.val (Wanted.free rfl) (V.pick_true rfl rfl rfl) rfl ?_
    refine RL.val (Wanted.free rfl) (V.move rfl rfl) rfl ?_
    refine RL.eff (Wanted.yes rfl rfl rfl rfl) (E.call rfl go18 rfl (lives_ok memX)) rfl ?_
    rintro _ _ ⟨rfl, rfl⟩
    refine RL.val (Wanted.free rfl) (V.pick_true rfl rfl rfl) rfl ?_
    refine RL.val (Wanted.free rfl) (V.assign rfl rfl) rfl ?_
    refine RL.nil ?_
    refine SG.retE (Ret.r1 Tryd.func7 rfl (.tmp rfl)) ?_ ⟨rfl, rfl⟩
    exact entX
   ·
    have hte : ¬ textV (labOf n k) = textV (labOf n m) := h81
    refine RL.val (Wanted.yes rfl rfl rfl rfl) (V.loadAgg (us := [vI (labOf n k).num, vI (labOf n k).suf]) rfl ag23 rfl pickX rfl rfl) rfl ?_
    refine RL.val (Wanted.yes rfl rfl rfl rfl) (V.loadAgg (us := [vI (labOf n m).num, vI (labOf n m).suf]) rfl ag23 rfl pickX rfl rfl) rfl ?_
    refine RL.cmpF (Wanted.yes rfl rfl rfl rfl) (V.eqlLab (s := (labOf n k)) (s' := (labOf n m)) rfl rfl rfl) rfl (fun e => hte (by rw [e])) ?_
    refine RL.cmpT (Wanted.yes rfl rfl rfl rfl) (V.eqlBool rfl ub4 rfl rfl) rfl rfl ?_
    refine RL.val (Wanted.free rfl) (V.pick_true rfl rfl rfl) rfl ?_
    refine RL.val (Wanted.free rfl) (V.move rfl rfl) rfl ?_
    refine RL.eff (Wanted.yes rfl rfl rfl rfl) (E.call rfl go18 rfl (lives_ok memX)) rfl ?_
    rintro _ _ ⟨rfl, rfl⟩
    refine RL.val (Wanted.free rfl) (V.pick_true rfl rfl rfl) rfl ?_
    refine RL.val (Wanted.free rfl) (V.assign rfl rfl) rfl ?_
    refine RL.nil ?_
    refine SG.retE (Ret.r1 Tryd.func7 rfl (.tmp rfl)) ?_ ⟨rfl, rfl⟩
    exact entX

set_option maxRecDepth 100000 in
set_option maxHeartbeats 1000000 in
theorem distinct_law {κ : World} {L : List Assn} {n k m o : Int} (hn : inInt n) (hk : inInt k) (hm : inInt m) (ho : inInt o) (hT : Glob 0 pows ∈ L) :
    Ctr Tryd.prog 8 #[vI n, vI k, vI m, vI o] κ L (fun v M => v = vB true ∧ M = L) := by
 refine Ctr.enter (vs := [vI n, vI k, vI m, vI o]) (m := 34) Tryd.func8 rfl rfl rfl ?_
 refine SG.seq ?_
 refine SG.region ?_
 refine RL.val (Wanted.free rfl) (V.assign rfl rfl) rfl ?_
 refine RL.nil ?_
 refine SG.seq ?_
 refine SG.region ?_
 refine RL.val (Wanted.free rfl) (V.move rfl rfl) rfl ?_
 refine RL.val (Wanted.free rfl) (V.move rfl rfl) rfl ?_
 refine RL.eff (Wanted.free rfl) (E.call rfl go24 rfl (label_ok (n := n) (k := k) (by assumption) (by assumption))) rfl ?_
 rintro _ _ ⟨rfl, rfl⟩
 refine RL.eff (Wanted.free rfl) (E.alloc rfl ze23) rfl ?_
 rintro _ _ ⟨b9, rfl, rfl⟩
 refine RL.eff (Wanted.free rfl) (E.storeWhole rfl rfl rfl (by rfl) sz23 pickX (by first | (simp [Value.oneCell']; done) | (simp [setAt, Value.oneCell']; done)) (by rfl)) rfl ?_
 rintro _ _ rfl
 refine RL.nil ?_
 refine SG.seq ?_
 refine SG.region ?_
 refine RL.val (Wanted.free rfl) (V.move rfl rfl) rfl ?_
 refine RL.val (Wanted.free rfl) (V.move rfl rfl) rfl ?_
 refine RL.eff (Wanted.free rfl) (E.call rfl go24 rfl (label_ok (n := m) (k := o) (by assumption) (by assumption))) rfl ?_
 rintro _ _ ⟨rfl, rfl⟩
 refine RL.eff (Wanted.free rfl) (E.alloc rfl ze23) rfl ?_
 rintro _ _ ⟨b10, rfl, rfl⟩
 refine RL.eff (Wanted.free rfl) (E.storeWhole rfl rfl rfl (by rfl) sz23 pickX (by first | (simp [Value.oneCell']; done) | (simp [setAt, Value.oneCell']; done)) (by rfl)) rfl ?_
 rintro _ _ rfl
 refine RL.nil ?_
 refine SG.seq ?_
 have hok := labOf_ok n k
 have hok2 := labOf_ok m o
 refine SG.drawL 18 18 wide rfl rfl ?_
 refine RH.val 0 rfl krX krX krX krX (Wanted.free rfl) (V.loadAgg (us := [vI (labOf n k).num, vI (labOf n k).suf]) rfl ag23 rfl pickX rfl rfl) rfl ?_
 refine RH.val 2 rfl krX krX krX krX (Wanted.free rfl) (V.loadAgg (us := [vI (labOf m o).num, vI (labOf m o).suf]) rfl ag23 rfl pickX rfl rfl) rfl ?_
 refine RH.val 5 rfl krX krX krX krX (Wanted.free rfl) (V.loadAgg (us := [vI (labOf n k).num, vI (labOf n k).suf]) rfl ag23 rfl pickX rfl rfl) rfl ?_
 refine RH.val 6 rfl krX krX krX krX (Wanted.free rfl) (V.loadAgg (us := [vI (labOf m o).num, vI (labOf m o).suf]) rfl ag23 rfl pickX rfl rfl) rfl ?_
 refine RH.cmp 7 rfl krX krX krX krX (Wanted.free rfl) (V.eqlLab (s := (labOf n k)) (s' := (labOf m o)) rfl rfl rfl) rfl (fun h16 => ?_) (fun h16 => ?_)
 ·
  have hae : labOf n k = labOf m o := h16
  refine RH.one (i := 1) krX ?_
  refine RHone.eff rfl (Wanted.free rfl) (E.call rfl go16 rfl (lText_ok (l := (labOf n k)) memX)) rfl ?_
  rintro _ _ ⟨rfl, rfl⟩
  refine ⟨.inr entX, ?_⟩
  refine RH.one (i := 3) krX ?_
  refine RHone.eff rfl (Wanted.free rfl) (E.call rfl go16 rfl (lText_ok (l := (labOf m o)) memX)) rfl ?_
  rintro _ _ ⟨rfl, rfl⟩
  refine ⟨.inr entX, ?_⟩
  refine RH.cmpT 4 rfl krX krX krX krX (Wanted.free rfl) (V.bin rfl rfl rfl B.eqlS) rfl (by rw [hae]) ?_
  refine RH.cmpT 8 rfl krX krX krX krX (Wanted.free rfl) (V.eqlBool rfl ub4 rfl rfl) rfl rfl ?_
  refine RH.val 9 rfl krX krX krX krX (Wanted.free rfl) (V.move rfl rfl) rfl ?_
  refine RH.val 10 rfl krX krX krX krX (Wanted.yes rfl rfl rfl rfl) (V.loadAgg (us := [vI (labOf n k).num, vI (labOf n k).suf]) rfl ag23 rfl pickX rfl rfl) rfl ?_
  refine RH.one (i := 11) krX ?_
  refine RHone.eff rfl (Wanted.yes rfl rfl rfl rfl) (E.call rfl go16 rfl (lText_ok (l := (labOf n k)) memX)) rfl ?_
  rintro _ _ ⟨rfl, rfl⟩
  refine ⟨.inr entX, ?_⟩
  refine RH.cmpT 12 rfl krX krX krX krX (Wanted.yes rfl rfl rfl rfl) (V.bin rfl rfl rfl B.neqS) rfl (text_ne hok) ?_
  refine RH.pure 13 rfl krX krX krX krX (Wanted.free rfl) (V.pick_true rfl rfl rfl) rfl ?_
  refine RH.val 14 rfl krX krX krX krX (Wanted.free rfl) (V.move rfl rfl) rfl ?_
  refine RH.one (i := 15) krX ?_
  refine RHone.eff rfl (Wanted.yes rfl rfl rfl rfl) (E.call rfl go18 rfl (lives_ok memX)) rfl ?_
  rintro _ _ ⟨rfl, rfl⟩
  refine ⟨.inr entX, ?_⟩
  refine RH.pure 16 rfl krX krX krX krX (Wanted.free rfl) (V.pick_true rfl rfl rfl) rfl ?_
  refine RH.val 17 rfl krX krX krX krX (Wanted.free rfl) (V.assign rfl rfl) rfl ?_
  refine RH.done krX ?_
  refine SG.retE (Ret.r1 Tryd.func8 rfl (.tmp rfl)) ?_ ⟨rfl, rfl⟩
  exact entX
 ·
  have hae : ¬ labOf n k = labOf m o := h16
  refine RH.one (i := 1) krX ?_
  refine RHone.eff rfl (Wanted.free rfl) (E.call rfl go16 rfl (lText_ok (l := (labOf n k)) memX)) rfl ?_
  rintro _ _ ⟨rfl, rfl⟩
  refine ⟨.inr entX, ?_⟩
  refine RH.one (i := 3) krX ?_
  refine RHone.eff rfl (Wanted.free rfl) (E.call rfl go16 rfl (lText_ok (l := (labOf m o)) memX)) rfl ?_
  rintro _ _ ⟨rfl, rfl⟩
  refine ⟨.inr entX, ?_⟩
  refine RH.cmpF 4 rfl krX krX krX krX (Wanted.free rfl) (V.bin rfl rfl rfl B.eqlS) rfl (fun e => hae (text_inj hok hok2 e)) ?_
  refine RH.cmpT 8 rfl krX krX krX krX (Wanted.free rfl) (V.eqlBool rfl ub4 rfl rfl) rfl rfl ?_
  refine RH.val 9 rfl krX krX krX krX (Wanted.free rfl) (V.move rfl rfl) rfl ?_
  refine RH.val 10 rfl krX krX krX krX (Wanted.yes rfl rfl rfl rfl) (V.loadAgg (us := [vI (labOf n k).num, vI (labOf n k).suf]) rfl ag23 rfl pickX rfl rfl) rfl ?_
  refine RH.one (i := 11) krX ?_
  refine RHone.eff rfl (Wanted.yes rfl rfl rfl rfl) (E.call rfl go16 rfl (lText_ok (l := (labOf n k)) memX)) rfl ?_
  rintro _ _ ⟨rfl, rfl⟩
  refine ⟨.inr entX, ?_⟩
  refine RH.cmpT 12 rfl krX krX krX krX (Wanted.yes rfl rfl rfl rfl) (V.bin rfl rfl rfl B.neqS) rfl (text_ne hok) ?_
  refine RH.pure 13 rfl krX krX krX krX (Wanted.free rfl) (V.pick_true rfl rfl rfl) rfl ?_
  refine RH.val 14 rfl krX krX krX krX (Wanted.free rfl) (V.move rfl rfl) rfl ?_
  refine RH.one (i := 15) krX ?_
  refine RHone.eff rfl (Wanted.yes rfl rfl rfl rfl) (E.call rfl go18 rfl (lives_ok memX)) rfl ?_
  rintro _ _ ⟨rfl, rfl⟩
  refine ⟨.inr entX, ?_⟩
  refine RH.pure 16 rfl krX krX krX krX (Wanted.free rfl) (V.pick_true rfl rfl rfl) rfl ?_
  refine RH.val 17 rfl krX krX krX krX (Wanted.free rfl) (V.assign rfl rfl) rfl ?_
  refine RH.done krX ?_
  refine SG.retE (Ret.r1 Tryd.func8 rfl (.tmp rfl)) ?_ ⟨rfl, rfl⟩
  exact entX

set_option maxRecDepth 100000 in
set_option maxHeartbeats 1000000 in
theorem next_law {κ : World} {L : List Assn} {n k : Int} (hn : inInt n) (hk : inInt k) {b : Lab} {times : Int} (ht : inInt times) (hT : Glob 0 pows ∈ L) :
    Ctr Tryd.prog 9 #[vI n, vI k, (.agg ([vI b.num, vI b.suf] : List Value).toArray), vI times] κ L (fun v M => v = vB true ∧ M = L) := by
 refine Ctr.enter (vs := [vI n, vI k, (.agg ([vI b.num, vI b.suf] : List Value).toArray), vI times]) (m := 88) Tryd.func9 rfl rfl rfl ?_
 refine SG.seq ?_
 refine SG.region ?_
 refine RL.eff (Wanted.free rfl) (E.box _ rfl rfl rfl) rfl ?_
 rintro _ _ ⟨b6, rfl, rfl⟩
 refine RL.val (Wanted.free rfl) (V.assign rfl rfl) rfl ?_
 refine RL.nil ?_
 refine SG.seq ?_
 refine SG.region ?_
 refine RL.val (Wanted.free rfl) (V.move rfl rfl) rfl ?_
 refine RL.val (Wanted.free rfl) (V.move rfl rfl) rfl ?_
 refine RL.eff (Wanted.free rfl) (E.call rfl go24 rfl (label_ok (n := n) (k := k) (by assumption) (by assumption))) rfl ?_
 rintro _ _ ⟨rfl, rfl⟩
 refine RL.eff (Wanted.free rfl) (E.alloc rfl ze23) rfl ?_
 rintro _ _ ⟨b9, rfl, rfl⟩
 refine RL.eff (Wanted.free rfl) (E.storeWhole rfl rfl rfl (by rfl) sz23 pickX (by first | (simp [Value.oneCell']; done) | (simp [setAt, Value.oneCell']; done)) (by rfl)) rfl ?_
 rintro _ _ rfl
 refine RL.nil ?_
 refine SG.seq ?_
 have hok := labOf_ok n k
 refine SG.region ?_
 refine RL.val (Wanted.free rfl) (V.loadAgg (us := [vI (labOf n k).num, vI (labOf n k).suf]) rfl ag23 rfl pickX rfl rfl) rfl ?_
 refine RL.eff (Wanted.free rfl) (E.call rfl go12 rfl (lNext_ok (l := (labOf n k)))) rfl ?_
 rintro _ _ ⟨rfl, rfl⟩
 refine RL.val (Wanted.free rfl) (V.move rfl rfl) rfl ?_
 refine RL.val (Wanted.free rfl) (V.extract rfl rfl rfl) rfl ?_
 refine RL.val (Wanted.free rfl) (V.extract rfl rfl rfl) rfl ?_
 refine RL.eff (Wanted.free rfl) (E.alloc rfl ze23) rfl ?_
 rintro _ _ ⟨b10, rfl, rfl⟩
 refine RL.eff (Wanted.free rfl) (E.storeWhole rfl rfl rfl (by rfl) sz23 pickX (by first | (simp [Value.oneCell']; done) | (simp [setAt, Value.oneCell']; done)) (by rfl)) rfl ?_
 rintro _ _ rfl
 refine RL.val (Wanted.free rfl) (V.assign rfl rfl) rfl ?_
 refine RL.nil ?_
 refine SG.seq ?_
 refine SG.seq ?_
 refine SG.region ?_
 refine RL.val (Wanted.free rfl) (V.move rfl rfl) rfl ?_
 refine RL.cmp (Wanted.free rfl) (V.bin rfl rfl rfl B.neq) rfl (fun h17 => ?_) (fun h17 => ?_)
 ·
  have hs : (labOf n k).suf = 16384 := Decidable.byContradiction fun e => h17 (by rw [(next_more hok e).1])
  rw [next_full hok hs]
  refine RL.nil ?_
  refine SG.cond_true rfl ?_
  refine SG.seq ?_
  refine SG.region ?_
  refine RL.val (Wanted.free rfl) (V.move rfl rfl) rfl ?_
  refine RL.cmpT (Wanted.free rfl) (V.bin rfl rfl rfl B.eql) rfl rfl ?_
  refine RL.val (Wanted.free rfl) (V.move rfl rfl) rfl ?_
  refine RL.val (Wanted.yes rfl rfl rfl rfl) (V.fieldAddr rfl rfl fo23_1) rfl ?_
  refine RL.val (Wanted.yes rfl rfl rfl rfl) (V.load rfl on3 rfl pickX rfl) rfl ?_
  refine RL.cmpT (Wanted.yes rfl rfl rfl rfl) (V.bin rfl rfl rfl B.eql) rfl hs ?_
  refine RL.val (Wanted.free rfl) (V.pick_true rfl rfl rfl) rfl ?_
  refine RL.val (Wanted.free rfl) (V.move rfl rfl) rfl ?_
  refine RL.eff (Wanted.yes rfl rfl rfl rfl) (E.call rfl go18 rfl (lives_ok memX)) rfl ?_
  rintro _ _ ⟨rfl, rfl⟩
  refine RL.val (Wanted.free rfl) (V.pick_true rfl rfl rfl) rfl ?_
  refine RL.val (Wanted.free rfl) (V.assign rfl rfl) rfl ?_
  refine RL.nil ?_
  refine SG.retE (Ret.r1 Tryd.func9 rfl (.tmp rfl)) ?_ ⟨rfl, rfl⟩
  exact entX
 ·
  have hs : (labOf n k).suf ≠ 16384 := fun e => h17 (by rw [next_full hok e]; decide)
  rw [(next_more hok hs).1]
  refine RL.nil ?_
  refine SG.cond_false rfl ?_
  refine SG.skip ?_
  refine SG.seq ?_
  refine SG.seq ?_
  refine SG.region ?_
  refine RL.val (Wanted.free rfl) (V.loadAgg (us := [vI (labOf n k).num, vI (labOf n k).suf]) rfl ag23 rfl pickX rfl rfl) rfl ?_
  refine RL.val (Wanted.free rfl) (V.loadAgg (us := [vI (Lab.mk (labOf n k).num ((labOf n k).suf + 1)).num, vI (Lab.mk (labOf n k).num ((labOf n k).suf + 1)).suf]) rfl ag23 rfl pickX rfl rfl) rfl ?_
  refine RL.eff (Wanted.free rfl) (E.call rfl go22 rfl (lLess_ok (a := (labOf n k)) (b := (Lab.mk (labOf n k).num ((labOf n k).suf + 1))))) rfl ?_
  rintro _ _ ⟨rfl, rfl⟩
  rw [decide_eq_true (before_next _)]
  refine RL.val (Wanted.free rfl) (V.not rfl rfl) rfl ?_
  refine RL.val (Wanted.free rfl) (V.move rfl rfl) rfl ?_
  refine RL.val (Wanted.yes rfl rfl rfl rfl) (V.loadAgg (us := [vI (labOf n k).num, vI (labOf n k).suf]) rfl ag23 rfl pickX rfl rfl) rfl ?_
  refine RL.val (Wanted.yes rfl rfl rfl rfl) (V.loadAgg (us := [vI b.num, vI b.suf]) rfl ag23 rfl pickX rfl rfl) rfl ?_
  refine RL.eff (Wanted.yes rfl rfl rfl rfl) (E.call rfl go22 rfl (lLess_ok (a := (labOf n k)) (b := b))) rfl ?_
  rintro _ _ ⟨rfl, rfl⟩
  refine RL.val (Wanted.yes rfl rfl rfl rfl) (V.move rfl rfl) rfl ?_
  refine RL.split 43 rfl (fun g33 => ?_) (fun g33 => ?_)
  ·
   refine RL.val (Wanted.yes rfl rfl rfl rfl) (V.loadAgg (us := [vI b.num, vI b.suf]) rfl ag23 rfl pickX rfl rfl) rfl ?_
   refine RL.val (Wanted.yes rfl rfl rfl rfl) (V.loadAgg (us := [vI (Lab.mk (labOf n k).num ((labOf n k).suf + 1)).num, vI (Lab.mk (labOf n k).num ((labOf n k).suf + 1)).suf]) rfl ag23 rfl pickX rfl rfl) rfl ?_
   refine RL.eff (Wanted.yes rfl rfl rfl rfl) (E.call rfl go22 rfl (lLess_ok (a := b) (b := (Lab.mk (labOf n k).num ((labOf n k).suf + 1))))) rfl ?_
   rintro _ _ ⟨rfl, rfl⟩
   rw [decide_eq_false (between (a := labOf n k) (of_decide_eq_true (by assumption)))]
   refine RL.val (Wanted.yes rfl rfl rfl rfl) (V.pick_true rfl rfl rfl) rfl ?_
   refine RL.val (Wanted.free rfl) (V.pick_false rfl rfl rfl) rfl ?_
   refine RL.nil ?_
   refine SG.cond_false rfl ?_
   refine SG.skip ?_
   refine SG.seq ?_
   refine SG.region ?_
   refine RL.val (Wanted.free rfl) (V.loadAgg (us := [vI (labOf n k).num, vI (labOf n k).suf]) rfl ag23 rfl pickX rfl rfl) rfl ?_
   refine RL.eff (Wanted.free rfl) (E.storeWhole rfl rfl rfl (by rfl) sz23 pickX (by first | (simp [Value.oneCell']; done) | (simp [setAt, Value.oneCell']; done)) (by rfl)) rfl ?_
   rintro _ _ rfl
   refine RL.nil ?_
   refine SG.seq ?_
   refine SG.seq ?_
   obtain ⟨q, hq, hq2⟩ := aroundV_nat (n := times) (most := 41) (by omega)
   refine SG.region ?_
   refine RL.val (Wanted.free rfl) (V.assign rfl rfl) rfl ?_
   refine RL.nil ?_
   refine SG.block ?_
   refine SG.weaken (SG.loop2 (fun m0 al M => ∃ (i : Nat) (l : Lab), i ≤ q ∧ okL l ∧ l.num = (labOf n k).num ∧ m0 = q + 1 - i ∧ al = [(3, vI times), (9, ptr b9 0), (10, ptr b10 0), (12, vI i)] ∧ M = Blk b10 23 [vI l.num, vI l.suf] :: Blk b9 23 [vI (labOf n k).num, vI (labOf n k).suf] :: L) (m0 := _) ⟨0, labOf n k, by omega, hok, rfl, rfl, rfl, rfl⟩ ?_) ?_ ?_
   rotate_left
   ·
    repeat (first | exact EnvLe.nil _ | refine EnvLe.cons rfl ?_)
   ·
    exact entX
   rintro _ _ _ ⟨i, l, hi, hl, hnum, rfl, rfl, rfl⟩ ih0
   refine SG.seq ?_
   refine SG.seq ?_
   refine SG.region ?_
   refine RL.val (Wanted.free rfl) (V.move rfl rfl) rfl ?_
   refine RL.val (Wanted.free rfl) (V.move rfl rfl) rfl ?_
   refine RL.eff (Wanted.free rfl) (E.call rfl go25 rfl (around_ok _ _ ht.1 ht.2 (by omega))) rfl ?_
   rintro _ _ ⟨rfl, rfl⟩
   rw [hq]
   refine RL.cmp (Wanted.free rfl) (V.bin rfl rfl rfl B.lss) rfl (fun h43 => ?_) (fun h43 => ?_)
   ·
    refine RL.nil ?_
    refine SG.cond_true rfl ?_
    refine SG.skip ?_
    refine SG.seq ?_
    refine SG.block ?_
    refine SG.seq ?_
    refine SG.region ?_
    refine RL.val (Wanted.free rfl) (V.loadAgg (us := [vI l.num, vI l.suf]) rfl ag23 rfl pickX rfl rfl) rfl ?_
    refine RL.eff (Wanted.free rfl) (E.call rfl go12 rfl (lNext_ok (l := l))) rfl ?_
    rintro _ _ ⟨rfl, rfl⟩
    refine RL.val (Wanted.free rfl) (V.move rfl rfl) rfl ?_
    refine RL.val (Wanted.free rfl) (V.extract rfl rfl rfl) rfl ?_
    refine RL.val (Wanted.free rfl) (V.extract rfl rfl rfl) rfl ?_
    refine RL.eff (Wanted.free rfl) (E.alloc rfl ze23) rfl ?_
    rintro _ _ ⟨b13, rfl, rfl⟩
    refine RL.eff (Wanted.free rfl) (E.storeWhole rfl rfl rfl (by rfl) sz23 pickX (by first | (simp [Value.oneCell']; done) | (simp [setAt, Value.oneCell']; done)) (by rfl)) rfl ?_
    rintro _ _ rfl
    refine RL.val (Wanted.free rfl) (V.assign rfl rfl) rfl ?_
    refine RL.nil ?_
    refine SG.seq ?_
    refine SG.seq ?_
    refine SG.region ?_
    refine RL.val (Wanted.free rfl) (V.fieldAddr rfl rfl fo23_1) rfl ?_
    refine RL.val (Wanted.free rfl) (V.load rfl on3 rfl pickX rfl) rfl ?_
    refine RL.cmp (Wanted.free rfl) (V.bin rfl rfl rfl B.eql) rfl (fun h54 => ?_) (fun h54 => ?_)
    ·
     have hs2 : l.suf = 16384 := h54
     rw [next_full hl hs2]
     refine RL.nil ?_
     refine SG.cond_true rfl ?_
     refine SG.seq ?_
     refine SG.region ?_
     refine RL.val (Wanted.free rfl) (V.move rfl rfl) rfl ?_
     refine RL.cmpT (Wanted.free rfl) (V.bin rfl rfl rfl B.eql) rfl rfl ?_
     refine RL.val (Wanted.free rfl) (V.move rfl rfl) rfl ?_
     refine RL.eff (Wanted.yes rfl rfl rfl rfl) (E.call rfl go18 rfl (lives_ok memX)) rfl ?_
     rintro _ _ ⟨rfl, rfl⟩
     refine RL.val (Wanted.free rfl) (V.pick_true rfl rfl rfl) rfl ?_
     refine RL.val (Wanted.free rfl) (V.assign rfl rfl) rfl ?_
     refine RL.nil ?_
     refine SG.retE (Ret.r1 Tryd.func9 rfl (.tmp rfl)) ?_ ⟨rfl, rfl⟩
     exact entX
    ·
     have hs2 : l.suf ≠ 16384 := h54
     rw [(next_more hl hs2).1]
     have hl3 := hl
     obtain ⟨y1, y2, y3, y4⟩ := hl3
     refine RL.nil ?_
     refine SG.cond_false rfl ?_
     refine SG.skip ?_
     refine SG.seq ?_
     refine SG.seq ?_
     refine SG.region ?_
     refine RL.val (Wanted.free rfl) (V.move rfl rfl) rfl ?_
     refine RL.cmpF (Wanted.free rfl) (V.bin rfl rfl rfl B.neq) rfl (fun h => h rfl) ?_
     refine RL.val (Wanted.free rfl) (V.move rfl rfl) rfl ?_
     refine RL.val (Wanted.yes rfl rfl rfl rfl) (V.fieldAddr rfl rfl fo23_0) rfl ?_
     refine RL.val (Wanted.yes rfl rfl rfl rfl) (V.load rfl on3 rfl pickX rfl) rfl ?_
     refine RL.val (Wanted.yes rfl rfl rfl rfl) (V.fieldAddr rfl rfl fo23_0) rfl ?_
     refine RL.val (Wanted.yes rfl rfl rfl rfl) (V.load rfl on3 rfl pickX rfl) rfl ?_
     refine RL.cmpF (Wanted.yes rfl rfl rfl rfl) (V.bin rfl rfl rfl B.neq) rfl (fun h => h hnum) ?_
     refine RL.val (Wanted.free rfl) (V.pick_false rfl rfl rfl) rfl ?_
     refine RL.val (Wanted.free rfl) (V.move rfl rfl) rfl ?_
     refine RL.val (Wanted.yes rfl rfl rfl rfl) (V.fieldAddr rfl rfl fo23_1) rfl ?_
     refine RL.val (Wanted.yes rfl rfl rfl rfl) (V.load rfl on3 rfl pickX rfl) rfl ?_
     refine RL.val (Wanted.yes rfl rfl rfl rfl) (V.fieldAddr rfl rfl fo23_1) rfl ?_
     refine RL.val (Wanted.yes rfl rfl rfl rfl) (V.load rfl on3 rfl pickX rfl) rfl ?_
     refine RL.val (Wanted.yes rfl rfl rfl rfl) (V.bin rfl rfl rfl (B.addI (by omega) (by omega))) rfl ?_
     refine RL.cmpF (Wanted.yes rfl rfl rfl rfl) (V.bin rfl rfl rfl B.neq) rfl (fun h => h rfl) ?_
     refine RL.val (Wanted.free rfl) (V.pick_false rfl rfl rfl) rfl ?_
     refine RL.nil ?_
     refine SG.cond_false rfl ?_
     refine SG.skip ?_
     refine SG.region ?_
     refine RL.val (Wanted.free rfl) (V.loadAgg (us := [vI (Lab.mk l.num (l.suf + 1)).num, vI (Lab.mk l.num (l.suf + 1)).suf]) rfl ag23 rfl pickX rfl rfl) rfl ?_
     refine RL.eff (Wanted.free rfl) (E.storeWhole rfl rfl rfl (by rfl) sz23 pickX (by first | (simp [Value.oneCell']; done) | (simp [setAt, Value.oneCell']; done)) (by rfl)) rfl ?_
     rintro _ _ rfl
     refine RL.nil ?_
     refine SG.inBlock ?_
     refine SG.region ?_
     refine RL.val (Wanted.free rfl) (V.move rfl rfl) rfl ?_
     refine RL.val (Wanted.free rfl) (V.bin rfl rfl rfl (B.addI (by omega) (by omega))) rfl ?_
     refine RL.val (Wanted.free rfl) (V.assign rfl rfl) rfl ?_
     refine RL.nil ?_
     refine SG.weaken (ih0 _ _ _ ?_ ⟨i + 1, ⟨l.num, l.suf + 1⟩, by omega, (next_more hl hs2).2, hnum, rfl, rfl, rfl⟩) ?_ ?_
     ·
      omega
     ·
      repeat (first | exact EnvLe.nil _ | refine EnvLe.cons rfl ?_)
     ·
      exact entX
   ·
    refine RL.nil ?_
    refine SG.cond_false rfl ?_
    refine SG.exit rfl ?_
    refine SG.seq ?_
    refine SG.region ?_
    refine RL.eff (Wanted.free rfl) (E.call rfl go18 rfl (lives_ok memX)) rfl ?_
    rintro _ _ ⟨rfl, rfl⟩
    refine RL.val (Wanted.free rfl) (V.assign rfl rfl) rfl ?_
    refine RL.nil ?_
    refine SG.retE (Ret.r1 Tryd.func9 rfl (.tmp rfl)) ?_ ⟨rfl, rfl⟩
    exact entX
  ·
   refine RL.skip (Wanted.no rfl rfl rfl rfl rfl) rfl ?_
   refine RL.skip (Wanted.no rfl rfl rfl rfl rfl) rfl ?_
   refine RL.skip (Wanted.no rfl rfl rfl rfl rfl) rfl ?_
   refine RL.val (Wanted.yes rfl rfl rfl rfl) (V.pick_false rfl rfl rfl) rfl ?_
   refine RL.val (Wanted.free rfl) (V.pick_false rfl rfl rfl) rfl ?_
   refine RL.nil ?_
   refine SG.cond_false rfl ?_
   refine SG.skip ?_
   refine SG.seq ?_
   refine SG.region ?_
   refine RL.val (Wanted.free rfl) (V.loadAgg (us := [vI (labOf n k).num, vI (labOf n k).suf]) rfl ag23 rfl pickX rfl rfl) rfl ?_
   refine RL.eff (Wanted.free rfl) (E.storeWhole rfl rfl rfl (by rfl) sz23 pickX (by first | (simp [Value.oneCell']; done) | (simp [setAt, Value.oneCell']; done)) (by rfl)) rfl ?_
   rintro _ _ rfl
   refine RL.nil ?_
   refine SG.seq ?_
   refine SG.seq ?_
   obtain ⟨q, hq, hq2⟩ := aroundV_nat (n := times) (most := 41) (by omega)
   refine SG.region ?_
   refine RL.val (Wanted.free rfl) (V.assign rfl rfl) rfl ?_
   refine RL.nil ?_
   refine SG.block ?_
   refine SG.weaken (SG.loop2 (fun m0 al M => ∃ (i : Nat) (l : Lab), i ≤ q ∧ okL l ∧ l.num = (labOf n k).num ∧ m0 = q + 1 - i ∧ al = [(3, vI times), (9, ptr b9 0), (10, ptr b10 0), (12, vI i)] ∧ M = Blk b10 23 [vI l.num, vI l.suf] :: Blk b9 23 [vI (labOf n k).num, vI (labOf n k).suf] :: L) (m0 := _) ⟨0, labOf n k, by omega, hok, rfl, rfl, rfl, rfl⟩ ?_) ?_ ?_
   rotate_left
   ·
    repeat (first | exact EnvLe.nil _ | refine EnvLe.cons rfl ?_)
   ·
    exact entX
   rintro _ _ _ ⟨i, l, hi, hl, hnum, rfl, rfl, rfl⟩ ih0
   refine SG.seq ?_
   refine SG.seq ?_
   refine SG.region ?_
   refine RL.val (Wanted.free rfl) (V.move rfl rfl) rfl ?_
   refine RL.val (Wanted.free rfl) (V.move rfl rfl) rfl ?_
   refine RL.eff (Wanted.free rfl) (E.call rfl go25 rfl (around_ok _ _ ht.1 ht.2 (by omega))) rfl ?_
   rintro _ _ ⟨rfl, rfl⟩
   rw [hq]
   refine RL.cmp (Wanted.free rfl) (V.bin rfl rfl rfl B.lss) rfl (fun h84 => ?_) (fun h84 => ?_)
   ·
    refine RL.nil ?_
    refine SG.cond_true rfl ?_
    refine SG.skip ?_
    refine SG.seq ?_
    refine SG.block ?_
    refine SG.seq ?_
    refine SG.region ?_
    refine RL.val (Wanted.free rfl) (V.loadAgg (us := [vI l.num, vI l.suf]) rfl ag23 rfl pickX rfl rfl) rfl ?_
    refine RL.eff (Wanted.free rfl) (E.call rfl go12 rfl (lNext_ok (l := l))) rfl ?_
    rintro _ _ ⟨rfl, rfl⟩
    refine RL.val (Wanted.free rfl) (V.move rfl rfl) rfl ?_
    refine RL.val (Wanted.free rfl) (V.extract rfl rfl rfl) rfl ?_
    refine RL.val (Wanted.free rfl) (V.extract rfl rfl rfl) rfl ?_
    refine RL.eff (Wanted.free rfl) (E.alloc rfl ze23) rfl ?_
    rintro _ _ ⟨b13, rfl, rfl⟩
    refine RL.eff (Wanted.free rfl) (E.storeWhole rfl rfl rfl (by rfl) sz23 pickX (by first | (simp [Value.oneCell']; done) | (simp [setAt, Value.oneCell']; done)) (by rfl)) rfl ?_
    rintro _ _ rfl
    refine RL.val (Wanted.free rfl) (V.assign rfl rfl) rfl ?_
    refine RL.nil ?_
    refine SG.seq ?_
    refine SG.seq ?_
    refine SG.region ?_
    refine RL.val (Wanted.free rfl) (V.fieldAddr rfl rfl fo23_1) rfl ?_
    refine RL.val (Wanted.free rfl) (V.load rfl on3 rfl pickX rfl) rfl ?_
    refine RL.cmp (Wanted.free rfl) (V.bin rfl rfl rfl B.eql) rfl (fun h95 => ?_) (fun h95 => ?_)
    ·
     have hs2 : l.suf = 16384 := h95
     rw [next_full hl hs2]
     refine RL.nil ?_
     refine SG.cond_true rfl ?_
     refine SG.seq ?_
     refine SG.region ?_
     refine RL.val (Wanted.free rfl) (V.move rfl rfl) rfl ?_
     refine RL.cmpT (Wanted.free rfl) (V.bin rfl rfl rfl B.eql) rfl rfl ?_
     refine RL.val (Wanted.free rfl) (V.move rfl rfl) rfl ?_
     refine RL.eff (Wanted.yes rfl rfl rfl rfl) (E.call rfl go18 rfl (lives_ok memX)) rfl ?_
     rintro _ _ ⟨rfl, rfl⟩
     refine RL.val (Wanted.free rfl) (V.pick_true rfl rfl rfl) rfl ?_
     refine RL.val (Wanted.free rfl) (V.assign rfl rfl) rfl ?_
     refine RL.nil ?_
     refine SG.retE (Ret.r1 Tryd.func9 rfl (.tmp rfl)) ?_ ⟨rfl, rfl⟩
     exact entX
    ·
     have hs2 : l.suf ≠ 16384 := h95
     rw [(next_more hl hs2).1]
     have hl3 := hl
     obtain ⟨y1, y2, y3, y4⟩ := hl3
     refine RL.nil ?_
     refine SG.cond_false rfl ?_
     refine SG.skip ?_
     refine SG.seq ?_
     refine SG.seq ?_
     refine SG.region ?_
     refine RL.val (Wanted.free rfl) (V.move rfl rfl) rfl ?_
     refine RL.cmpF (Wanted.free rfl) (V.bin rfl rfl rfl B.neq) rfl (fun h => h rfl) ?_
     refine RL.val (Wanted.free rfl) (V.move rfl rfl) rfl ?_
     refine RL.val (Wanted.yes rfl rfl rfl rfl) (V.fieldAddr rfl rfl fo23_0) rfl ?_
     refine RL.val (Wanted.yes rfl rfl rfl rfl) (V.load rfl on3 rfl pickX rfl) rfl ?_
     refine RL.val (Wanted.yes rfl rfl rfl rfl) (V.fieldAddr rfl rfl fo23_0) rfl ?_
     refine RL.val (Wanted.yes rfl rfl rfl rfl) (V.load rfl on3 rfl pickX rfl) rfl ?_
     refine RL.cmpF (Wanted.yes rfl rfl rfl rfl) (V.bin rfl rfl rfl B.neq) rfl (fun h => h hnum) ?_
     refine RL.val (Wanted.free rfl) (V.pick_false rfl rfl rfl) rfl ?_
     refine RL.val (Wanted.free rfl) (V.move rfl rfl) rfl ?_
     refine RL.val (Wanted.yes rfl rfl rfl rfl) (V.fieldAddr rfl rfl fo23_1) rfl ?_
     refine RL.val (Wanted.yes rfl rfl rfl rfl) (V.load rfl on3 rfl pickX rfl) rfl ?_
     refine RL.val (Wanted.yes rfl rfl rfl rfl) (V.fieldAddr rfl rfl fo23_1) rfl ?_
     refine RL.val (Wanted.yes rfl rfl rfl rfl) (V.load rfl on3 rfl pickX rfl) rfl ?_
     refine RL.val (Wanted.yes rfl rfl rfl rfl) (V.bin rfl rfl rfl (B.addI (by omega) (by omega))) rfl ?_
     refine RL.cmpF (Wanted.yes rfl rfl rfl rfl) (V.bin rfl rfl rfl B.neq) rfl (fun h => h rfl) ?_
     refine RL.val (Wanted.free rfl) (V.pick_false rfl rfl rfl) rfl ?_
     refine RL.nil ?_
     refine SG.cond_false rfl ?_
     refine SG.skip ?_
     refine SG.region ?_
     refine RL.val (Wanted.free rfl) (V.loadAgg (us := [vI (Lab.mk l.num (l.suf + 1)).num, vI (Lab.mk l.num (l.suf + 1)).suf]) rfl ag23 rfl pickX rfl rfl) rfl ?_
     refine RL.eff (Wanted.free rfl) (E.storeWhole rfl rfl rfl (by rfl) sz23 pickX (by first | (simp [Value.oneCell']; done) | (simp [setAt, Value.oneCell']; done)) (by rfl)) rfl ?_
     rintro _ _ rfl
     refine RL.nil ?_
     refine SG.inBlock ?_
     refine SG.region ?_
     refine RL.val (Wanted.free rfl) (V.move rfl rfl) rfl ?_
     refine RL.val (Wanted.free rfl) (V.bin rfl rfl rfl (B.addI (by omega) (by omega))) rfl ?_
     refine RL.val (Wanted.free rfl) (V.assign rfl rfl) rfl ?_
     refine RL.nil ?_
     refine SG.weaken (ih0 _ _ _ ?_ ⟨i + 1, ⟨l.num, l.suf + 1⟩, by omega, (next_more hl hs2).2, hnum, rfl, rfl, rfl⟩) ?_ ?_
     ·
      omega
     ·
      repeat (first | exact EnvLe.nil _ | refine EnvLe.cons rfl ?_)
     ·
      exact entX
   ·
    refine RL.nil ?_
    refine SG.cond_false rfl ?_
    refine SG.exit rfl ?_
    refine SG.seq ?_
    refine SG.region ?_
    refine RL.eff (Wanted.free rfl) (E.call rfl go18 rfl (lives_ok memX)) rfl ?_
    rintro _ _ ⟨rfl, rfl⟩
    refine RL.val (Wanted.free rfl) (V.assign rfl rfl) rfl ?_
    refine RL.nil ?_
    refine SG.retE (Ret.r1 Tryd.func9 rfl (.tmp rfl)) ?_ ⟨rfl, rfl⟩
    exact entX

end Go.Proofs.YteopejoppdgncaaDoor
