/- Votes. -/
import Derived.Test.YtilcnglcflohoaaBeat
namespace Go.Proofs.Ytilcnglcflohoaa
open Go.Wk Go.Rp

theorem cntB_step {l : List Bool} {k : Nat} (h : k < l.length) : (l.take (k + 1)).countP (· == true) = (l.take k).countP (· == true) + (if l[k] = true then 1 else 0) := by
  rw [List.take_add_one, List.getElem?_eq_getElem h, List.countP_append]
  simp only [Option.toList_some, List.countP_cons, List.countP_nil, beq_iff_eq, Nat.zero_add]
set_option maxRecDepth 100000 in
set_option maxHeartbeats 1000000 in
theorem vote_okw {κ : World} {L : List Assn} {L1 : List Assn} {b : Nat} {p : Peer} {out : List Msg} (hp : Pick (Nd b p out) L L1) {us : List Value} {m : Msg} (hm : Rd RMsg us m ∈ L1) (hol1 : out.length ≤ 10) (hb1 : p.log.length ≤ 900000) (_ : p.votes.length ≤ 1000) (_ : p.mtch.length ≤ 1000) :
    Ctr Try.prog 70 #[ptr b 0, .agg us.toArray] κ L (fun v M => v = .tuple #[] ∧ M = Nd b (voteP p m) (out ++ [voteM p m]) :: L1) := by
 refine Ctr.enter (vs := [ptr b 0, .agg us.toArray]) (m := 78) Try.func70 rfl rfl rfl ?_
 refine SG.openNd hp fun la ln lc va vn vc ma mn mc oa on oc => ?_
 refine SG.openMsg (Pick.rd (show Rd RMsg us m ∈ _ from memX)) fun sa sn sc hus => ?_
 subst hus
 refine SG.buf (T := RSlot) (a := la) pickX fun hll _ _ => ?_
 refine SG.buf (T := RB) (a := va) pickX fun hvl _ _ => ?_
 refine SG.buf (T := RI) (a := ma) pickX fun hml _ _ => ?_
 refine SG.buf (T := RMsg) (a := oa) pickX fun hol _ _ => ?_
 refine SG.sl (T := RSlot) (a := sa) memX fun hsl _ _ => ?_
 subst hll; subst hvl; subst hml; subst hol; subst hsl
 have hlt : lastT p.log = termAt p.log p.log.length := rfl
 refine SG.seq ?_
 refine SG.region ?_
 refine RL.eff (Wanted.free rfl) (E.box _ rfl rfl rfl) rfl ?_
 rintro _ _ ⟨b3, rfl, rfl⟩
 refine RL.nil ?_
 refine SG.seq ?_
 refine SG.region ?_
 refine RL.val (Wanted.free rfl) (V.move rfl rfl) rfl ?_
 refine RL.val (Wanted.free rfl) (V.move rfl rfl) rfl ?_
 refine RL.val (Wanted.free rfl) (V.nilCheck rfl rfl) rfl ?_
 refine RL.val (Wanted.free rfl) (V.fieldAddr rfl rfl fo94_0) rfl ?_
 refine RL.val (Wanted.free rfl) (V.fieldAddr rfl rfl fo26_6) rfl ?_
 refine RL.val (Wanted.free rfl) (V.load rfl on23 rfl pickX rfl) rfl ?_
 refine RL.val (Wanted.free rfl) (V.len rfl rfl el23.under rfl) rfl ?_
 refine RL.eff (Wanted.free rfl) (E.call rfl go59 rfl (term_ok (p := p) (i := (p.log.length : Int)) pickX pickX (by omega) (by omega))) rfl ?_
 rintro _ _ ⟨rfl, rfl⟩
 refine RL.val (Wanted.free rfl) (V.assign rfl rfl) rfl ?_
 refine RL.nil ?_
 refine SG.seq ?_
 refine SG.drawL 22 22 wide rfl rfl ?_
 refine RH.val 0 rfl krX krX krX krX (Wanted.free rfl) (V.fieldAddr rfl rfl fo50_5) rfl ?_
 refine RH.val 1 rfl krX krX krX krX (Wanted.free rfl) (V.load rfl on3 rfl pickX rfl) rfl ?_
 refine RH.val 2 rfl krX krX krX krX (Wanted.free rfl) (V.move rfl rfl) rfl ?_
 refine RH.cmp 3 rfl krX krX krX krX (Wanted.free rfl) (V.bin rfl rfl rfl B.gtr) rfl (fun h14 => ?_) (fun h14 => ?_)
 ·
  refine RH.val 4 rfl krX krX krX krX (Wanted.free rfl) (V.move rfl rfl) rfl ?_
  refine RH.skip 5 rfl krX krX krX krX (Wanted.no rfl rfl rfl rfl rfl) rfl ?_
  refine RH.skip 6 rfl krX krX krX krX (Wanted.no rfl rfl rfl rfl rfl) rfl ?_
  refine RH.skip 7 rfl krX krX krX krX (Wanted.no rfl rfl rfl rfl rfl) rfl ?_
  refine RH.skip 8 rfl krX krX krX krX (Wanted.no rfl rfl rfl rfl rfl) rfl ?_
  refine RH.skip 9 rfl krX krX krX krX (Wanted.no rfl rfl rfl rfl rfl) rfl ?_
  refine RH.skip 10 rfl krX krX krX krX (Wanted.un rfl rfl rfl) rfl ?_
  refine RH.skip 11 rfl krX krX krX krX (Wanted.un rfl rfl rfl) rfl ?_
  refine RH.skip 12 rfl krX krX krX krX (Wanted.un rfl rfl rfl) rfl ?_
  refine RH.skip 13 rfl krX krX krX krX (Wanted.un rfl rfl rfl) rfl ?_
  refine RH.skip 14 rfl krX krX krX krX (Wanted.un rfl rfl rfl) rfl ?_
  refine RH.skip 15 rfl krX krX krX krX (Wanted.un rfl rfl rfl) rfl ?_
  refine RH.skip 16 rfl krX krX krX krX (Wanted.un rfl rfl rfl) rfl ?_
  refine RH.skip 17 rfl krX krX krX krX (Wanted.un rfl rfl rfl) rfl ?_
  refine RH.skip 18 rfl krX krX krX krX (Wanted.un rfl rfl rfl) rfl ?_
  refine RH.skip 19 rfl krX krX krX krX (Wanted.no rfl rfl rfl rfl rfl) rfl ?_
  refine RH.pure 20 rfl krX krX krX krX (Wanted.free rfl) (V.pick_true rfl rfl rfl) rfl ?_
  refine RH.val 21 rfl krX krX krX krX (Wanted.free rfl) (V.assign rfl rfl) rfl ?_
  refine RH.done krX ?_
  refine SG.seq ?_
  refine SG.drawL 30 30 wide rfl rfl ?_
  refine RH.val 0 rfl krX krX krX krX (Wanted.free rfl) (V.fieldAddr rfl rfl fo50_3) rfl ?_
  refine RH.val 1 rfl krX krX krX krX (Wanted.free rfl) (V.load rfl on3 rfl pickX rfl) rfl ?_
  refine RH.val 2 rfl krX krX krX krX (Wanted.free rfl) (V.move rfl rfl) rfl ?_
  refine RH.val 3 rfl krX krX krX krX (Wanted.free rfl) (V.nilCheck rfl rfl) rfl ?_
  refine RH.val 4 rfl krX krX krX krX (Wanted.free rfl) (V.fieldAddr rfl rfl fo94_0) rfl ?_
  refine RH.val 5 rfl krX krX krX krX (Wanted.free rfl) (V.fieldAddr rfl rfl fo26_2) rfl ?_
  refine RH.val 6 rfl krX krX krX krX (Wanted.free rfl) (V.load rfl on3 rfl pickX rfl) rfl ?_
  refine RH.cmp 7 rfl krX krX krX krX (Wanted.free rfl) (V.bin rfl rfl rfl B.eql) rfl (fun h24 => ?_) (fun h24 => ?_)
  ·
   refine RH.val 8 rfl krX krX krX krX (Wanted.free rfl) (V.move rfl rfl) rfl ?_
   refine RH.val 9 rfl krX krX krX krX (Wanted.yes rfl rfl rfl rfl) (V.move rfl rfl) rfl ?_
   refine RH.pure 10 rfl krX krX krX krX (Wanted.free rfl) (V.pick_true rfl rfl rfl) rfl ?_
   refine RH.val 11 rfl krX krX krX krX (Wanted.free rfl) (V.move rfl rfl) rfl ?_
   refine RH.val 12 rfl krX krX krX krX (Wanted.yes rfl rfl rfl rfl) (V.move rfl rfl) rfl ?_
   refine RH.val 13 rfl krX krX krX krX (Wanted.yes rfl rfl rfl rfl) (V.nilCheck rfl rfl) rfl ?_
   refine RH.val 14 rfl krX krX krX krX (Wanted.yes rfl rfl rfl rfl) (V.fieldAddr rfl rfl fo94_0) rfl ?_
   refine RH.val 15 rfl krX krX krX krX (Wanted.yes rfl rfl rfl rfl) (V.fieldAddr rfl rfl fo26_3) rfl ?_
   refine RH.val 16 rfl krX krX krX krX (Wanted.yes rfl rfl rfl rfl) (V.load rfl on3 rfl pickX rfl) rfl ?_
   refine RH.cmp 17 rfl krX krX krX krX (Wanted.yes rfl rfl rfl rfl) (V.bin rfl rfl rfl B.eql) rfl (fun h33 => ?_) (fun h33 => ?_)
   ·
    refine RH.val 18 rfl krX krX krX krX (Wanted.yes rfl rfl rfl rfl) (V.move rfl rfl) rfl ?_
    refine RH.skip 19 rfl krX krX krX krX (Wanted.no rfl rfl rfl rfl rfl) rfl ?_
    refine RH.skip 20 rfl krX krX krX krX (Wanted.no rfl rfl rfl rfl rfl) rfl ?_
    refine RH.skip 21 rfl krX krX krX krX (Wanted.no rfl rfl rfl rfl rfl) rfl ?_
    refine RH.skip 22 rfl krX krX krX krX (Wanted.no rfl rfl rfl rfl rfl) rfl ?_
    refine RH.skip 23 rfl krX krX krX krX (Wanted.no rfl rfl rfl rfl rfl) rfl ?_
    refine RH.skip 24 rfl krX krX krX krX (Wanted.no rfl rfl rfl rfl rfl) rfl ?_
    refine RH.skip 25 rfl krX krX krX krX (Wanted.no rfl rfl rfl rfl rfl) rfl ?_
    refine RH.skip 26 rfl krX krX krX krX (Wanted.no rfl rfl rfl rfl rfl) rfl ?_
    refine RH.pure 27 rfl krX krX krX krX (Wanted.yes rfl rfl rfl rfl) (V.pick_true rfl rfl rfl) rfl ?_
    refine RH.pure 28 rfl krX krX krX krX (Wanted.free rfl) (V.pick_true rfl rfl rfl) rfl ?_
    refine RH.val 29 rfl krX krX krX krX (Wanted.free rfl) (V.assign rfl rfl) rfl ?_
    refine RH.done krX ?_
    refine SG.seq ?_
    refine SG.seq ?_
    refine SG.region ?_
    refine RL.val (Wanted.free rfl) (V.move rfl rfl) rfl ?_
    refine RL.nil ?_
    refine SG.cond_true rfl ?_
    refine SG.region ?_
    refine RL.val (Wanted.free rfl) (V.move rfl rfl) rfl ?_
    refine RL.val (Wanted.free rfl) (V.fieldAddr rfl rfl fo50_1) rfl ?_
    refine RL.val (Wanted.free rfl) (V.load rfl on3 rfl pickX rfl) rfl ?_
    refine RL.val (Wanted.free rfl) (V.nilCheck rfl rfl) rfl ?_
    refine RL.val (Wanted.free rfl) (V.fieldAddr rfl rfl fo94_0) rfl ?_
    refine RL.val (Wanted.free rfl) (V.fieldAddr rfl rfl fo26_3) rfl ?_
    refine RL.eff (Wanted.free rfl) (E.store1 rfl rfl rfl rfl rfl sz3 pickX rfl) rfl ?_
    rintro _ _ rfl
    refine RL.nil ?_
    have hg : grants p m := by unfold grants recent; omega
    have hvp : voteP p m = { p with voted := m.frm } := if_pos hg
    have hvm : voteM p m = ⟨2, p.id, m.frm, p.term, 0, 0, 0, [], true⟩ := by rw [voteM, decide_eq_true hg]
    rw [hvp, hvm]
    refine SG.ent (?_ : Ent _ (Blk b 94 (nv { p with voted := m.frm } (.slice la p.log.length lc) (.slice va p.votes.length vc) (.slice ma p.mtch.length mc) (.slice oa out.length oc)) :: Buf RSlot 53 la p.log.length lc p.log :: Buf RB 4 va p.votes.length vc p.votes :: Buf RI 3 ma p.mtch.length mc p.mtch :: Buf RMsg 50 oa out.length oc out :: Blk b3 50 (mv m (.slice sa m.slots.length sc)) :: L1)) ?_
    ·
     exact entX
    refine SG.ent (Sl.nil (T := RSlot)) ?_
    refine SG.ent (RMsg.mk (m := ⟨2, 0, m.frm, 0, 0, 0, 0, [], true⟩) memX) ?_
    refine SG.region ?_
    refine RL.val (Wanted.free rfl) (V.move rfl rfl) rfl ?_
    refine RL.val (Wanted.free rfl) (V.fieldAddr rfl rfl fo50_1) rfl ?_
    refine RL.val (Wanted.free rfl) (V.load rfl on3 rfl pickX rfl) rfl ?_
    refine RL.val (Wanted.free rfl) (V.move rfl rfl) rfl ?_
    refine RL.val (Wanted.free rfl) (V.buildS [(0, _), (2, _), (8, _)] rfl bs50 (by exact ⟨rfl, ⟨_, rfl, rfl⟩, ⟨rfl, ⟨_, rfl, rfl⟩, ⟨rfl, ⟨_, rfl, rfl⟩, trivial⟩⟩⟩) rfl) rfl ?_
    refine RL.eff (Wanted.free rfl) (E.call rfl go58 rfl (send_ok (p := { p with voted := m.frm }) (m := ⟨2, 0, m.frm, 0, 0, 0, 0, [], true⟩) (by repeat (first | exact Ent.refl _ | (apply Ent.cons; (· repeat (first | exact Pick.here | (refine Pick.sl ?_; (· repeat (first | exact List.Mem.head _ | assumption | apply List.Mem.tail))) | apply Pick.there))) | (refine Ent.trans (Ent.drop _ _) ?_))) memX (by omega))) rfl ?_
    rintro _ _ ⟨a77, c77, rfl, rfl⟩
    refine RL.nil ?_
    refine SG.doneE (Ret.none Try.func70 rfl) ?_ ⟨rfl, rfl⟩
    refine Nd.ent (la := la) (ln := p.log.length) (lc := lc) (va := va) (vn := p.votes.length) (vc := vc) (ma := ma) (mn := p.mtch.length) (mc := mc) (oa := a77) (on := out.length + 1) (oc := c77) ?_
    exact entX
   ·
    refine RH.val 18 rfl krX krX krX krX (Wanted.yes rfl rfl rfl rfl) (V.move rfl rfl) rfl ?_
    refine RH.val 19 rfl krX krX krX krX (Wanted.yes rfl rfl rfl rfl) (V.move rfl rfl) rfl ?_
    refine RH.val 20 rfl krX krX krX krX (Wanted.yes rfl rfl rfl rfl) (V.nilCheck rfl rfl) rfl ?_
    refine RH.val 21 rfl krX krX krX krX (Wanted.yes rfl rfl rfl rfl) (V.fieldAddr rfl rfl fo94_0) rfl ?_
    refine RH.val 22 rfl krX krX krX krX (Wanted.yes rfl rfl rfl rfl) (V.fieldAddr rfl rfl fo26_3) rfl ?_
    refine RH.val 23 rfl krX krX krX krX (Wanted.yes rfl rfl rfl rfl) (V.load rfl on3 rfl pickX rfl) rfl ?_
    refine RH.val 24 rfl krX krX krX krX (Wanted.yes rfl rfl rfl rfl) (V.fieldAddr rfl rfl fo50_1) rfl ?_
    refine RH.val 25 rfl krX krX krX krX (Wanted.yes rfl rfl rfl rfl) (V.load rfl on3 rfl pickX rfl) rfl ?_
    refine RH.cmp 26 rfl krX krX krX krX (Wanted.yes rfl rfl rfl rfl) (V.bin rfl rfl rfl B.eql) rfl (fun h58 => ?_) (fun h58 => ?_)
    ·
     refine RH.pure 27 rfl krX krX krX krX (Wanted.yes rfl rfl rfl rfl) (V.pick_false rfl rfl rfl) rfl ?_
     refine RH.pure 28 rfl krX krX krX krX (Wanted.free rfl) (V.pick_true rfl rfl rfl) rfl ?_
     refine RH.val 29 rfl krX krX krX krX (Wanted.free rfl) (V.assign rfl rfl) rfl ?_
     refine RH.done krX ?_
     refine SG.seq ?_
     refine SG.seq ?_
     refine SG.region ?_
     refine RL.val (Wanted.free rfl) (V.move rfl rfl) rfl ?_
     refine RL.nil ?_
     refine SG.cond_true rfl ?_
     refine SG.region ?_
     refine RL.val (Wanted.free rfl) (V.move rfl rfl) rfl ?_
     refine RL.val (Wanted.free rfl) (V.fieldAddr rfl rfl fo50_1) rfl ?_
     refine RL.val (Wanted.free rfl) (V.load rfl on3 rfl pickX rfl) rfl ?_
     refine RL.val (Wanted.free rfl) (V.nilCheck rfl rfl) rfl ?_
     refine RL.val (Wanted.free rfl) (V.fieldAddr rfl rfl fo94_0) rfl ?_
     refine RL.val (Wanted.free rfl) (V.fieldAddr rfl rfl fo26_3) rfl ?_
     refine RL.eff (Wanted.free rfl) (E.store1 rfl rfl rfl rfl rfl sz3 pickX rfl) rfl ?_
     rintro _ _ rfl
     refine RL.nil ?_
     have hg : grants p m := by unfold grants recent; omega
     have hvp : voteP p m = { p with voted := m.frm } := if_pos hg
     have hvm : voteM p m = ⟨2, p.id, m.frm, p.term, 0, 0, 0, [], true⟩ := by rw [voteM, decide_eq_true hg]
     rw [hvp, hvm]
     refine SG.ent (?_ : Ent _ (Blk b 94 (nv { p with voted := m.frm } (.slice la p.log.length lc) (.slice va p.votes.length vc) (.slice ma p.mtch.length mc) (.slice oa out.length oc)) :: Buf RSlot 53 la p.log.length lc p.log :: Buf RB 4 va p.votes.length vc p.votes :: Buf RI 3 ma p.mtch.length mc p.mtch :: Buf RMsg 50 oa out.length oc out :: Blk b3 50 (mv m (.slice sa m.slots.length sc)) :: L1)) ?_
     ·
      exact entX
     refine SG.ent (Sl.nil (T := RSlot)) ?_
     refine SG.ent (RMsg.mk (m := ⟨2, 0, m.frm, 0, 0, 0, 0, [], true⟩) memX) ?_
     refine SG.region ?_
     refine RL.val (Wanted.free rfl) (V.move rfl rfl) rfl ?_
     refine RL.val (Wanted.free rfl) (V.fieldAddr rfl rfl fo50_1) rfl ?_
     refine RL.val (Wanted.free rfl) (V.load rfl on3 rfl pickX rfl) rfl ?_
     refine RL.val (Wanted.free rfl) (V.move rfl rfl) rfl ?_
     refine RL.val (Wanted.free rfl) (V.buildS [(0, _), (2, _), (8, _)] rfl bs50 (by exact ⟨rfl, ⟨_, rfl, rfl⟩, ⟨rfl, ⟨_, rfl, rfl⟩, ⟨rfl, ⟨_, rfl, rfl⟩, trivial⟩⟩⟩) rfl) rfl ?_
     refine RL.eff (Wanted.free rfl) (E.call rfl go58 rfl (send_ok (p := { p with voted := m.frm }) (m := ⟨2, 0, m.frm, 0, 0, 0, 0, [], true⟩) (by repeat (first | exact Ent.refl _ | (apply Ent.cons; (· repeat (first | exact Pick.here | (refine Pick.sl ?_; (· repeat (first | exact List.Mem.head _ | assumption | apply List.Mem.tail))) | apply Pick.there))) | (refine Ent.trans (Ent.drop _ _) ?_))) memX (by omega))) rfl ?_
     rintro _ _ ⟨a77, c77, rfl, rfl⟩
     refine RL.nil ?_
     refine SG.doneE (Ret.none Try.func70 rfl) ?_ ⟨rfl, rfl⟩
     refine Nd.ent (la := la) (ln := p.log.length) (lc := lc) (va := va) (vn := p.votes.length) (vc := vc) (ma := ma) (mn := p.mtch.length) (mc := mc) (oa := a77) (on := out.length + 1) (oc := c77) ?_
     exact entX
    ·
     refine RH.pure 27 rfl krX krX krX krX (Wanted.yes rfl rfl rfl rfl) (V.pick_false rfl rfl rfl) rfl ?_
     refine RH.pure 28 rfl krX krX krX krX (Wanted.free rfl) (V.pick_true rfl rfl rfl) rfl ?_
     refine RH.val 29 rfl krX krX krX krX (Wanted.free rfl) (V.assign rfl rfl) rfl ?_
     refine RH.done krX ?_
     refine SG.seq ?_
     refine SG.seq ?_
     refine SG.region ?_
     refine RL.val (Wanted.free rfl) (V.move rfl rfl) rfl ?_
     refine RL.nil ?_
     refine SG.cond_false rfl ?_
     refine SG.skip ?_
     have hg : ¬ grants p m := by unfold grants recent; omega
     have hvp : voteP p m = p := if_neg hg
     have hvm : voteM p m = ⟨2, p.id, m.frm, p.term, 0, 0, 0, [], false⟩ := by rw [voteM, decide_eq_false hg]
     rw [hvp, hvm]
     refine SG.ent (?_ : Ent _ (Blk b 94 (nv p (.slice la p.log.length lc) (.slice va p.votes.length vc) (.slice ma p.mtch.length mc) (.slice oa out.length oc)) :: Buf RSlot 53 la p.log.length lc p.log :: Buf RB 4 va p.votes.length vc p.votes :: Buf RI 3 ma p.mtch.length mc p.mtch :: Buf RMsg 50 oa out.length oc out :: Blk b3 50 (mv m (.slice sa m.slots.length sc)) :: L1)) ?_
     ·
      exact entX
     refine SG.ent (Sl.nil (T := RSlot)) ?_
     refine SG.ent (RMsg.mk (m := ⟨2, 0, m.frm, 0, 0, 0, 0, [], false⟩) memX) ?_
     refine SG.region ?_
     refine RL.val (Wanted.free rfl) (V.move rfl rfl) rfl ?_
     refine RL.val (Wanted.free rfl) (V.fieldAddr rfl rfl fo50_1) rfl ?_
     refine RL.val (Wanted.free rfl) (V.load rfl on3 rfl pickX rfl) rfl ?_
     refine RL.val (Wanted.free rfl) (V.move rfl rfl) rfl ?_
     refine RL.val (Wanted.free rfl) (V.buildS [(0, _), (2, _), (8, _)] rfl bs50 (by exact ⟨rfl, ⟨_, rfl, rfl⟩, ⟨rfl, ⟨_, rfl, rfl⟩, ⟨rfl, ⟨_, rfl, rfl⟩, trivial⟩⟩⟩) rfl) rfl ?_
     refine RL.eff (Wanted.free rfl) (E.call rfl go58 rfl (send_ok (p := p) (m := ⟨2, 0, m.frm, 0, 0, 0, 0, [], false⟩) (by repeat (first | exact Ent.refl _ | (apply Ent.cons; (· repeat (first | exact Pick.here | (refine Pick.sl ?_; (· repeat (first | exact List.Mem.head _ | assumption | apply List.Mem.tail))) | apply Pick.there))) | (refine Ent.trans (Ent.drop _ _) ?_))) memX (by omega))) rfl ?_
     rintro _ _ ⟨a77, c77, rfl, rfl⟩
     refine RL.nil ?_
     refine SG.doneE (Ret.none Try.func70 rfl) ?_ ⟨rfl, rfl⟩
     refine Nd.ent (la := la) (ln := p.log.length) (lc := lc) (va := va) (vn := p.votes.length) (vc := vc) (ma := ma) (mn := p.mtch.length) (mc := mc) (oa := a77) (on := out.length + 1) (oc := c77) ?_
     exact entX
  ·
   refine RH.val 8 rfl krX krX krX krX (Wanted.free rfl) (V.move rfl rfl) rfl ?_
   refine RH.skip 9 rfl krX krX krX krX (Wanted.no rfl rfl rfl rfl rfl) rfl ?_
   refine RH.pure 10 rfl krX krX krX krX (Wanted.free rfl) (V.pick_false rfl rfl rfl) rfl ?_
   refine RH.val 11 rfl krX krX krX krX (Wanted.free rfl) (V.move rfl rfl) rfl ?_
   refine RH.skip 12 rfl krX krX krX krX (Wanted.no rfl rfl rfl rfl rfl) rfl ?_
   refine RH.skip 13 rfl krX krX krX krX (Wanted.no rfl rfl rfl rfl rfl) rfl ?_
   refine RH.skip 14 rfl krX krX krX krX (Wanted.no rfl rfl rfl rfl rfl) rfl ?_
   refine RH.skip 15 rfl krX krX krX krX (Wanted.no rfl rfl rfl rfl rfl) rfl ?_
   refine RH.skip 16 rfl krX krX krX krX (Wanted.no rfl rfl rfl rfl rfl) rfl ?_
   refine RH.skip 17 rfl krX krX krX krX (Wanted.no rfl rfl rfl rfl rfl) rfl ?_
   refine RH.skip 18 rfl krX krX krX krX (Wanted.no rfl rfl rfl rfl rfl) rfl ?_
   refine RH.skip 19 rfl krX krX krX krX (Wanted.un rfl rfl rfl) rfl ?_
   refine RH.skip 20 rfl krX krX krX krX (Wanted.un rfl rfl rfl) rfl ?_
   refine RH.skip 21 rfl krX krX krX krX (Wanted.un rfl rfl rfl) rfl ?_
   refine RH.skip 22 rfl krX krX krX krX (Wanted.un rfl rfl rfl) rfl ?_
   refine RH.skip 23 rfl krX krX krX krX (Wanted.un rfl rfl rfl) rfl ?_
   refine RH.skip 24 rfl krX krX krX krX (Wanted.un rfl rfl rfl) rfl ?_
   refine RH.skip 25 rfl krX krX krX krX (Wanted.un rfl rfl rfl) rfl ?_
   refine RH.skip 26 rfl krX krX krX krX (Wanted.un rfl rfl rfl) rfl ?_
   refine RH.skip 27 rfl krX krX krX krX (Wanted.no rfl rfl rfl rfl rfl) rfl ?_
   refine RH.pure 28 rfl krX krX krX krX (Wanted.free rfl) (V.pick_false rfl rfl rfl) rfl ?_
   refine RH.val 29 rfl krX krX krX krX (Wanted.free rfl) (V.assign rfl rfl) rfl ?_
   refine RH.done krX ?_
   refine SG.seq ?_
   refine SG.seq ?_
   refine SG.region ?_
   refine RL.val (Wanted.free rfl) (V.move rfl rfl) rfl ?_
   refine RL.nil ?_
   refine SG.cond_false rfl ?_
   refine SG.skip ?_
   have hg : ¬ grants p m := by unfold grants recent; omega
   have hvp : voteP p m = p := if_neg hg
   have hvm : voteM p m = ⟨2, p.id, m.frm, p.term, 0, 0, 0, [], false⟩ := by rw [voteM, decide_eq_false hg]
   rw [hvp, hvm]
   refine SG.ent (?_ : Ent _ (Blk b 94 (nv p (.slice la p.log.length lc) (.slice va p.votes.length vc) (.slice ma p.mtch.length mc) (.slice oa out.length oc)) :: Buf RSlot 53 la p.log.length lc p.log :: Buf RB 4 va p.votes.length vc p.votes :: Buf RI 3 ma p.mtch.length mc p.mtch :: Buf RMsg 50 oa out.length oc out :: Blk b3 50 (mv m (.slice sa m.slots.length sc)) :: L1)) ?_
   ·
    exact entX
   refine SG.ent (Sl.nil (T := RSlot)) ?_
   refine SG.ent (RMsg.mk (m := ⟨2, 0, m.frm, 0, 0, 0, 0, [], false⟩) memX) ?_
   refine SG.region ?_
   refine RL.val (Wanted.free rfl) (V.move rfl rfl) rfl ?_
   refine RL.val (Wanted.free rfl) (V.fieldAddr rfl rfl fo50_1) rfl ?_
   refine RL.val (Wanted.free rfl) (V.load rfl on3 rfl pickX rfl) rfl ?_
   refine RL.val (Wanted.free rfl) (V.move rfl rfl) rfl ?_
   refine RL.val (Wanted.free rfl) (V.buildS [(0, _), (2, _), (8, _)] rfl bs50 (by exact ⟨rfl, ⟨_, rfl, rfl⟩, ⟨rfl, ⟨_, rfl, rfl⟩, ⟨rfl, ⟨_, rfl, rfl⟩, trivial⟩⟩⟩) rfl) rfl ?_
   refine RL.eff (Wanted.free rfl) (E.call rfl go58 rfl (send_ok (p := p) (m := ⟨2, 0, m.frm, 0, 0, 0, 0, [], false⟩) (by repeat (first | exact Ent.refl _ | (apply Ent.cons; (· repeat (first | exact Pick.here | (refine Pick.sl ?_; (· repeat (first | exact List.Mem.head _ | assumption | apply List.Mem.tail))) | apply Pick.there))) | (refine Ent.trans (Ent.drop _ _) ?_))) memX (by omega))) rfl ?_
   rintro _ _ ⟨a77, c77, rfl, rfl⟩
   refine RL.nil ?_
   refine SG.doneE (Ret.none Try.func70 rfl) ?_ ⟨rfl, rfl⟩
   refine Nd.ent (la := la) (ln := p.log.length) (lc := lc) (va := va) (vn := p.votes.length) (vc := vc) (ma := ma) (mn := p.mtch.length) (mc := mc) (oa := a77) (on := out.length + 1) (oc := c77) ?_
   exact entX
 ·
  refine RH.val 4 rfl krX krX krX krX (Wanted.free rfl) (V.move rfl rfl) rfl ?_
  refine RH.val 5 rfl krX krX krX krX (Wanted.yes rfl rfl rfl rfl) (V.fieldAddr rfl rfl fo50_5) rfl ?_
  refine RH.val 6 rfl krX krX krX krX (Wanted.yes rfl rfl rfl rfl) (V.load rfl on3 rfl pickX rfl) rfl ?_
  refine RH.val 7 rfl krX krX krX krX (Wanted.yes rfl rfl rfl rfl) (V.move rfl rfl) rfl ?_
  refine RH.cmp 8 rfl krX krX krX krX (Wanted.yes rfl rfl rfl rfl) (V.bin rfl rfl rfl B.eql) rfl (fun h96 => ?_) (fun h96 => ?_)
  ·
   refine RH.val 9 rfl krX krX krX krX (Wanted.yes rfl rfl rfl rfl) (V.move rfl rfl) rfl ?_
   refine RH.val 10 rfl krX krX krX krX (Wanted.yes rfl rfl rfl rfl) (V.fieldAddr rfl rfl fo50_4) rfl ?_
   refine RH.val 11 rfl krX krX krX krX (Wanted.yes rfl rfl rfl rfl) (V.load rfl on3 rfl pickX rfl) rfl ?_
   refine RH.val 12 rfl krX krX krX krX (Wanted.yes rfl rfl rfl rfl) (V.move rfl rfl) rfl ?_
   refine RH.val 13 rfl krX krX krX krX (Wanted.yes rfl rfl rfl rfl) (V.nilCheck rfl rfl) rfl ?_
   refine RH.val 14 rfl krX krX krX krX (Wanted.yes rfl rfl rfl rfl) (V.fieldAddr rfl rfl fo94_0) rfl ?_
   refine RH.val 15 rfl krX krX krX krX (Wanted.yes rfl rfl rfl rfl) (V.fieldAddr rfl rfl fo26_6) rfl ?_
   refine RH.val 16 rfl krX krX krX krX (Wanted.yes rfl rfl rfl rfl) (V.load rfl on23 rfl pickX rfl) rfl ?_
   refine RH.val 17 rfl krX krX krX krX (Wanted.yes rfl rfl rfl rfl) (V.len rfl rfl el23.under rfl) rfl ?_
   refine RH.cmp 18 rfl krX krX krX krX (Wanted.yes rfl rfl rfl rfl) (V.bin rfl rfl rfl B.geq) rfl (fun h106 => ?_) (fun h106 => ?_)
   ·
    refine RH.pure 19 rfl krX krX krX krX (Wanted.yes rfl rfl rfl rfl) (V.pick_true rfl rfl rfl) rfl ?_
    refine RH.pure 20 rfl krX krX krX krX (Wanted.free rfl) (V.pick_false rfl rfl rfl) rfl ?_
    refine RH.val 21 rfl krX krX krX krX (Wanted.free rfl) (V.assign rfl rfl) rfl ?_
    refine RH.done krX ?_
    refine SG.seq ?_
    refine SG.drawL 30 30 wide rfl rfl ?_
    refine RH.val 0 rfl krX krX krX krX (Wanted.free rfl) (V.fieldAddr rfl rfl fo50_3) rfl ?_
    refine RH.val 1 rfl krX krX krX krX (Wanted.free rfl) (V.load rfl on3 rfl pickX rfl) rfl ?_
    refine RH.val 2 rfl krX krX krX krX (Wanted.free rfl) (V.move rfl rfl) rfl ?_
    refine RH.val 3 rfl krX krX krX krX (Wanted.free rfl) (V.nilCheck rfl rfl) rfl ?_
    refine RH.val 4 rfl krX krX krX krX (Wanted.free rfl) (V.fieldAddr rfl rfl fo94_0) rfl ?_
    refine RH.val 5 rfl krX krX krX krX (Wanted.free rfl) (V.fieldAddr rfl rfl fo26_2) rfl ?_
    refine RH.val 6 rfl krX krX krX krX (Wanted.free rfl) (V.load rfl on3 rfl pickX rfl) rfl ?_
    refine RH.cmp 7 rfl krX krX krX krX (Wanted.free rfl) (V.bin rfl rfl rfl B.eql) rfl (fun h115 => ?_) (fun h115 => ?_)
    ·
     refine RH.val 8 rfl krX krX krX krX (Wanted.free rfl) (V.move rfl rfl) rfl ?_
     refine RH.val 9 rfl krX krX krX krX (Wanted.yes rfl rfl rfl rfl) (V.move rfl rfl) rfl ?_
     refine RH.pure 10 rfl krX krX krX krX (Wanted.free rfl) (V.pick_true rfl rfl rfl) rfl ?_
     refine RH.val 11 rfl krX krX krX krX (Wanted.free rfl) (V.move rfl rfl) rfl ?_
     refine RH.val 12 rfl krX krX krX krX (Wanted.yes rfl rfl rfl rfl) (V.move rfl rfl) rfl ?_
     refine RH.val 13 rfl krX krX krX krX (Wanted.yes rfl rfl rfl rfl) (V.nilCheck rfl rfl) rfl ?_
     refine RH.val 14 rfl krX krX krX krX (Wanted.yes rfl rfl rfl rfl) (V.fieldAddr rfl rfl fo94_0) rfl ?_
     refine RH.val 15 rfl krX krX krX krX (Wanted.yes rfl rfl rfl rfl) (V.fieldAddr rfl rfl fo26_3) rfl ?_
     refine RH.val 16 rfl krX krX krX krX (Wanted.yes rfl rfl rfl rfl) (V.load rfl on3 rfl pickX rfl) rfl ?_
     refine RH.cmp 17 rfl krX krX krX krX (Wanted.yes rfl rfl rfl rfl) (V.bin rfl rfl rfl B.eql) rfl (fun h124 => ?_) (fun h124 => ?_)
     ·
      refine RH.val 18 rfl krX krX krX krX (Wanted.yes rfl rfl rfl rfl) (V.move rfl rfl) rfl ?_
      refine RH.skip 19 rfl krX krX krX krX (Wanted.no rfl rfl rfl rfl rfl) rfl ?_
      refine RH.skip 20 rfl krX krX krX krX (Wanted.no rfl rfl rfl rfl rfl) rfl ?_
      refine RH.skip 21 rfl krX krX krX krX (Wanted.no rfl rfl rfl rfl rfl) rfl ?_
      refine RH.skip 22 rfl krX krX krX krX (Wanted.no rfl rfl rfl rfl rfl) rfl ?_
      refine RH.skip 23 rfl krX krX krX krX (Wanted.no rfl rfl rfl rfl rfl) rfl ?_
      refine RH.skip 24 rfl krX krX krX krX (Wanted.no rfl rfl rfl rfl rfl) rfl ?_
      refine RH.skip 25 rfl krX krX krX krX (Wanted.no rfl rfl rfl rfl rfl) rfl ?_
      refine RH.skip 26 rfl krX krX krX krX (Wanted.no rfl rfl rfl rfl rfl) rfl ?_
      refine RH.pure 27 rfl krX krX krX krX (Wanted.yes rfl rfl rfl rfl) (V.pick_true rfl rfl rfl) rfl ?_
      refine RH.pure 28 rfl krX krX krX krX (Wanted.free rfl) (V.pick_true rfl rfl rfl) rfl ?_
      refine RH.val 29 rfl krX krX krX krX (Wanted.free rfl) (V.assign rfl rfl) rfl ?_
      refine RH.done krX ?_
      refine SG.seq ?_
      refine SG.seq ?_
      refine SG.region ?_
      refine RL.val (Wanted.free rfl) (V.move rfl rfl) rfl ?_
      refine RL.nil ?_
      refine SG.cond_true rfl ?_
      refine SG.region ?_
      refine RL.val (Wanted.free rfl) (V.move rfl rfl) rfl ?_
      refine RL.val (Wanted.free rfl) (V.fieldAddr rfl rfl fo50_1) rfl ?_
      refine RL.val (Wanted.free rfl) (V.load rfl on3 rfl pickX rfl) rfl ?_
      refine RL.val (Wanted.free rfl) (V.nilCheck rfl rfl) rfl ?_
      refine RL.val (Wanted.free rfl) (V.fieldAddr rfl rfl fo94_0) rfl ?_
      refine RL.val (Wanted.free rfl) (V.fieldAddr rfl rfl fo26_3) rfl ?_
      refine RL.eff (Wanted.free rfl) (E.store1 rfl rfl rfl rfl rfl sz3 pickX rfl) rfl ?_
      rintro _ _ rfl
      refine RL.nil ?_
      have hg : grants p m := by unfold grants recent; omega
      have hvp : voteP p m = { p with voted := m.frm } := if_pos hg
      have hvm : voteM p m = ⟨2, p.id, m.frm, p.term, 0, 0, 0, [], true⟩ := by rw [voteM, decide_eq_true hg]
      rw [hvp, hvm]
      refine SG.ent (?_ : Ent _ (Blk b 94 (nv { p with voted := m.frm } (.slice la p.log.length lc) (.slice va p.votes.length vc) (.slice ma p.mtch.length mc) (.slice oa out.length oc)) :: Buf RSlot 53 la p.log.length lc p.log :: Buf RB 4 va p.votes.length vc p.votes :: Buf RI 3 ma p.mtch.length mc p.mtch :: Buf RMsg 50 oa out.length oc out :: Blk b3 50 (mv m (.slice sa m.slots.length sc)) :: L1)) ?_
      ·
       exact entX
      refine SG.ent (Sl.nil (T := RSlot)) ?_
      refine SG.ent (RMsg.mk (m := ⟨2, 0, m.frm, 0, 0, 0, 0, [], true⟩) memX) ?_
      refine SG.region ?_
      refine RL.val (Wanted.free rfl) (V.move rfl rfl) rfl ?_
      refine RL.val (Wanted.free rfl) (V.fieldAddr rfl rfl fo50_1) rfl ?_
      refine RL.val (Wanted.free rfl) (V.load rfl on3 rfl pickX rfl) rfl ?_
      refine RL.val (Wanted.free rfl) (V.move rfl rfl) rfl ?_
      refine RL.val (Wanted.free rfl) (V.buildS [(0, _), (2, _), (8, _)] rfl bs50 (by exact ⟨rfl, ⟨_, rfl, rfl⟩, ⟨rfl, ⟨_, rfl, rfl⟩, ⟨rfl, ⟨_, rfl, rfl⟩, trivial⟩⟩⟩) rfl) rfl ?_
      refine RL.eff (Wanted.free rfl) (E.call rfl go58 rfl (send_ok (p := { p with voted := m.frm }) (m := ⟨2, 0, m.frm, 0, 0, 0, 0, [], true⟩) (by repeat (first | exact Ent.refl _ | (apply Ent.cons; (· repeat (first | exact Pick.here | (refine Pick.sl ?_; (· repeat (first | exact List.Mem.head _ | assumption | apply List.Mem.tail))) | apply Pick.there))) | (refine Ent.trans (Ent.drop _ _) ?_))) memX (by omega))) rfl ?_
      rintro _ _ ⟨a77, c77, rfl, rfl⟩
      refine RL.nil ?_
      refine SG.doneE (Ret.none Try.func70 rfl) ?_ ⟨rfl, rfl⟩
      refine Nd.ent (la := la) (ln := p.log.length) (lc := lc) (va := va) (vn := p.votes.length) (vc := vc) (ma := ma) (mn := p.mtch.length) (mc := mc) (oa := a77) (on := out.length + 1) (oc := c77) ?_
      exact entX
     ·
      refine RH.val 18 rfl krX krX krX krX (Wanted.yes rfl rfl rfl rfl) (V.move rfl rfl) rfl ?_
      refine RH.val 19 rfl krX krX krX krX (Wanted.yes rfl rfl rfl rfl) (V.move rfl rfl) rfl ?_
      refine RH.val 20 rfl krX krX krX krX (Wanted.yes rfl rfl rfl rfl) (V.nilCheck rfl rfl) rfl ?_
      refine RH.val 21 rfl krX krX krX krX (Wanted.yes rfl rfl rfl rfl) (V.fieldAddr rfl rfl fo94_0) rfl ?_
      refine RH.val 22 rfl krX krX krX krX (Wanted.yes rfl rfl rfl rfl) (V.fieldAddr rfl rfl fo26_3) rfl ?_
      refine RH.val 23 rfl krX krX krX krX (Wanted.yes rfl rfl rfl rfl) (V.load rfl on3 rfl pickX rfl) rfl ?_
      refine RH.val 24 rfl krX krX krX krX (Wanted.yes rfl rfl rfl rfl) (V.fieldAddr rfl rfl fo50_1) rfl ?_
      refine RH.val 25 rfl krX krX krX krX (Wanted.yes rfl rfl rfl rfl) (V.load rfl on3 rfl pickX rfl) rfl ?_
      refine RH.cmp 26 rfl krX krX krX krX (Wanted.yes rfl rfl rfl rfl) (V.bin rfl rfl rfl B.eql) rfl (fun h149 => ?_) (fun h149 => ?_)
      ·
       refine RH.pure 27 rfl krX krX krX krX (Wanted.yes rfl rfl rfl rfl) (V.pick_false rfl rfl rfl) rfl ?_
       refine RH.pure 28 rfl krX krX krX krX (Wanted.free rfl) (V.pick_true rfl rfl rfl) rfl ?_
       refine RH.val 29 rfl krX krX krX krX (Wanted.free rfl) (V.assign rfl rfl) rfl ?_
       refine RH.done krX ?_
       refine SG.seq ?_
       refine SG.seq ?_
       refine SG.region ?_
       refine RL.val (Wanted.free rfl) (V.move rfl rfl) rfl ?_
       refine RL.nil ?_
       refine SG.cond_true rfl ?_
       refine SG.region ?_
       refine RL.val (Wanted.free rfl) (V.move rfl rfl) rfl ?_
       refine RL.val (Wanted.free rfl) (V.fieldAddr rfl rfl fo50_1) rfl ?_
       refine RL.val (Wanted.free rfl) (V.load rfl on3 rfl pickX rfl) rfl ?_
       refine RL.val (Wanted.free rfl) (V.nilCheck rfl rfl) rfl ?_
       refine RL.val (Wanted.free rfl) (V.fieldAddr rfl rfl fo94_0) rfl ?_
       refine RL.val (Wanted.free rfl) (V.fieldAddr rfl rfl fo26_3) rfl ?_
       refine RL.eff (Wanted.free rfl) (E.store1 rfl rfl rfl rfl rfl sz3 pickX rfl) rfl ?_
       rintro _ _ rfl
       refine RL.nil ?_
       have hg : grants p m := by unfold grants recent; omega
       have hvp : voteP p m = { p with voted := m.frm } := if_pos hg
       have hvm : voteM p m = ⟨2, p.id, m.frm, p.term, 0, 0, 0, [], true⟩ := by rw [voteM, decide_eq_true hg]
       rw [hvp, hvm]
       refine SG.ent (?_ : Ent _ (Blk b 94 (nv { p with voted := m.frm } (.slice la p.log.length lc) (.slice va p.votes.length vc) (.slice ma p.mtch.length mc) (.slice oa out.length oc)) :: Buf RSlot 53 la p.log.length lc p.log :: Buf RB 4 va p.votes.length vc p.votes :: Buf RI 3 ma p.mtch.length mc p.mtch :: Buf RMsg 50 oa out.length oc out :: Blk b3 50 (mv m (.slice sa m.slots.length sc)) :: L1)) ?_
       ·
        exact entX
       refine SG.ent (Sl.nil (T := RSlot)) ?_
       refine SG.ent (RMsg.mk (m := ⟨2, 0, m.frm, 0, 0, 0, 0, [], true⟩) memX) ?_
       refine SG.region ?_
       refine RL.val (Wanted.free rfl) (V.move rfl rfl) rfl ?_
       refine RL.val (Wanted.free rfl) (V.fieldAddr rfl rfl fo50_1) rfl ?_
       refine RL.val (Wanted.free rfl) (V.load rfl on3 rfl pickX rfl) rfl ?_
       refine RL.val (Wanted.free rfl) (V.move rfl rfl) rfl ?_
       refine RL.val (Wanted.free rfl) (V.buildS [(0, _), (2, _), (8, _)] rfl bs50 (by exact ⟨rfl, ⟨_, rfl, rfl⟩, ⟨rfl, ⟨_, rfl, rfl⟩, ⟨rfl, ⟨_, rfl, rfl⟩, trivial⟩⟩⟩) rfl) rfl ?_
       refine RL.eff (Wanted.free rfl) (E.call rfl go58 rfl (send_ok (p := { p with voted := m.frm }) (m := ⟨2, 0, m.frm, 0, 0, 0, 0, [], true⟩) (by repeat (first | exact Ent.refl _ | (apply Ent.cons; (· repeat (first | exact Pick.here | (refine Pick.sl ?_; (· repeat (first | exact List.Mem.head _ | assumption | apply List.Mem.tail))) | apply Pick.there))) | (refine Ent.trans (Ent.drop _ _) ?_))) memX (by omega))) rfl ?_
       rintro _ _ ⟨a77, c77, rfl, rfl⟩
       refine RL.nil ?_
       refine SG.doneE (Ret.none Try.func70 rfl) ?_ ⟨rfl, rfl⟩
       refine Nd.ent (la := la) (ln := p.log.length) (lc := lc) (va := va) (vn := p.votes.length) (vc := vc) (ma := ma) (mn := p.mtch.length) (mc := mc) (oa := a77) (on := out.length + 1) (oc := c77) ?_
       exact entX
      ·
       refine RH.pure 27 rfl krX krX krX krX (Wanted.yes rfl rfl rfl rfl) (V.pick_false rfl rfl rfl) rfl ?_
       refine RH.pure 28 rfl krX krX krX krX (Wanted.free rfl) (V.pick_true rfl rfl rfl) rfl ?_
       refine RH.val 29 rfl krX krX krX krX (Wanted.free rfl) (V.assign rfl rfl) rfl ?_
       refine RH.done krX ?_
       refine SG.seq ?_
       refine SG.seq ?_
       refine SG.region ?_
       refine RL.val (Wanted.free rfl) (V.move rfl rfl) rfl ?_
       refine RL.nil ?_
       refine SG.cond_false rfl ?_
       refine SG.skip ?_
       have hg : ¬ grants p m := by unfold grants recent; omega
       have hvp : voteP p m = p := if_neg hg
       have hvm : voteM p m = ⟨2, p.id, m.frm, p.term, 0, 0, 0, [], false⟩ := by rw [voteM, decide_eq_false hg]
       rw [hvp, hvm]
       refine SG.ent (?_ : Ent _ (Blk b 94 (nv p (.slice la p.log.length lc) (.slice va p.votes.length vc) (.slice ma p.mtch.length mc) (.slice oa out.length oc)) :: Buf RSlot 53 la p.log.length lc p.log :: Buf RB 4 va p.votes.length vc p.votes :: Buf RI 3 ma p.mtch.length mc p.mtch :: Buf RMsg 50 oa out.length oc out :: Blk b3 50 (mv m (.slice sa m.slots.length sc)) :: L1)) ?_
       ·
        exact entX
       refine SG.ent (Sl.nil (T := RSlot)) ?_
       refine SG.ent (RMsg.mk (m := ⟨2, 0, m.frm, 0, 0, 0, 0, [], false⟩) memX) ?_
       refine SG.region ?_
       refine RL.val (Wanted.free rfl) (V.move rfl rfl) rfl ?_
       refine RL.val (Wanted.free rfl) (V.fieldAddr rfl rfl fo50_1) rfl ?_
       refine RL.val (Wanted.free rfl) (V.load rfl on3 rfl pickX rfl) rfl ?_
       refine RL.val (Wanted.free rfl) (V.move rfl rfl) rfl ?_
       refine RL.val (Wanted.free rfl) (V.buildS [(0, _), (2, _), (8, _)] rfl bs50 (by exact ⟨rfl, ⟨_, rfl, rfl⟩, ⟨rfl, ⟨_, rfl, rfl⟩, ⟨rfl, ⟨_, rfl, rfl⟩, trivial⟩⟩⟩) rfl) rfl ?_
       refine RL.eff (Wanted.free rfl) (E.call rfl go58 rfl (send_ok (p := p) (m := ⟨2, 0, m.frm, 0, 0, 0, 0, [], false⟩) (by repeat (first | exact Ent.refl _ | (apply Ent.cons; (· repeat (first | exact Pick.here | (refine Pick.sl ?_; (· repeat (first | exact List.Mem.head _ | assumption | apply List.Mem.tail))) | apply Pick.there))) | (refine Ent.trans (Ent.drop _ _) ?_))) memX (by omega))) rfl ?_
       rintro _ _ ⟨a77, c77, rfl, rfl⟩
       refine RL.nil ?_
       refine SG.doneE (Ret.none Try.func70 rfl) ?_ ⟨rfl, rfl⟩
       refine Nd.ent (la := la) (ln := p.log.length) (lc := lc) (va := va) (vn := p.votes.length) (vc := vc) (ma := ma) (mn := p.mtch.length) (mc := mc) (oa := a77) (on := out.length + 1) (oc := c77) ?_
       exact entX
    ·
     refine RH.val 8 rfl krX krX krX krX (Wanted.free rfl) (V.move rfl rfl) rfl ?_
     refine RH.skip 9 rfl krX krX krX krX (Wanted.no rfl rfl rfl rfl rfl) rfl ?_
     refine RH.pure 10 rfl krX krX krX krX (Wanted.free rfl) (V.pick_false rfl rfl rfl) rfl ?_
     refine RH.val 11 rfl krX krX krX krX (Wanted.free rfl) (V.move rfl rfl) rfl ?_
     refine RH.skip 12 rfl krX krX krX krX (Wanted.no rfl rfl rfl rfl rfl) rfl ?_
     refine RH.skip 13 rfl krX krX krX krX (Wanted.no rfl rfl rfl rfl rfl) rfl ?_
     refine RH.skip 14 rfl krX krX krX krX (Wanted.no rfl rfl rfl rfl rfl) rfl ?_
     refine RH.skip 15 rfl krX krX krX krX (Wanted.no rfl rfl rfl rfl rfl) rfl ?_
     refine RH.skip 16 rfl krX krX krX krX (Wanted.no rfl rfl rfl rfl rfl) rfl ?_
     refine RH.skip 17 rfl krX krX krX krX (Wanted.no rfl rfl rfl rfl rfl) rfl ?_
     refine RH.skip 18 rfl krX krX krX krX (Wanted.no rfl rfl rfl rfl rfl) rfl ?_
     refine RH.skip 19 rfl krX krX krX krX (Wanted.un rfl rfl rfl) rfl ?_
     refine RH.skip 20 rfl krX krX krX krX (Wanted.un rfl rfl rfl) rfl ?_
     refine RH.skip 21 rfl krX krX krX krX (Wanted.un rfl rfl rfl) rfl ?_
     refine RH.skip 22 rfl krX krX krX krX (Wanted.un rfl rfl rfl) rfl ?_
     refine RH.skip 23 rfl krX krX krX krX (Wanted.un rfl rfl rfl) rfl ?_
     refine RH.skip 24 rfl krX krX krX krX (Wanted.un rfl rfl rfl) rfl ?_
     refine RH.skip 25 rfl krX krX krX krX (Wanted.un rfl rfl rfl) rfl ?_
     refine RH.skip 26 rfl krX krX krX krX (Wanted.un rfl rfl rfl) rfl ?_
     refine RH.skip 27 rfl krX krX krX krX (Wanted.no rfl rfl rfl rfl rfl) rfl ?_
     refine RH.pure 28 rfl krX krX krX krX (Wanted.free rfl) (V.pick_false rfl rfl rfl) rfl ?_
     refine RH.val 29 rfl krX krX krX krX (Wanted.free rfl) (V.assign rfl rfl) rfl ?_
     refine RH.done krX ?_
     refine SG.seq ?_
     refine SG.seq ?_
     refine SG.region ?_
     refine RL.val (Wanted.free rfl) (V.move rfl rfl) rfl ?_
     refine RL.nil ?_
     refine SG.cond_false rfl ?_
     refine SG.skip ?_
     have hg : ¬ grants p m := by unfold grants recent; omega
     have hvp : voteP p m = p := if_neg hg
     have hvm : voteM p m = ⟨2, p.id, m.frm, p.term, 0, 0, 0, [], false⟩ := by rw [voteM, decide_eq_false hg]
     rw [hvp, hvm]
     refine SG.ent (?_ : Ent _ (Blk b 94 (nv p (.slice la p.log.length lc) (.slice va p.votes.length vc) (.slice ma p.mtch.length mc) (.slice oa out.length oc)) :: Buf RSlot 53 la p.log.length lc p.log :: Buf RB 4 va p.votes.length vc p.votes :: Buf RI 3 ma p.mtch.length mc p.mtch :: Buf RMsg 50 oa out.length oc out :: Blk b3 50 (mv m (.slice sa m.slots.length sc)) :: L1)) ?_
     ·
      exact entX
     refine SG.ent (Sl.nil (T := RSlot)) ?_
     refine SG.ent (RMsg.mk (m := ⟨2, 0, m.frm, 0, 0, 0, 0, [], false⟩) memX) ?_
     refine SG.region ?_
     refine RL.val (Wanted.free rfl) (V.move rfl rfl) rfl ?_
     refine RL.val (Wanted.free rfl) (V.fieldAddr rfl rfl fo50_1) rfl ?_
     refine RL.val (Wanted.free rfl) (V.load rfl on3 rfl pickX rfl) rfl ?_
     refine RL.val (Wanted.free rfl) (V.move rfl rfl) rfl ?_
     refine RL.val (Wanted.free rfl) (V.buildS [(0, _), (2, _), (8, _)] rfl bs50 (by exact ⟨rfl, ⟨_, rfl, rfl⟩, ⟨rfl, ⟨_, rfl, rfl⟩, ⟨rfl, ⟨_, rfl, rfl⟩, trivial⟩⟩⟩) rfl) rfl ?_
     refine RL.eff (Wanted.free rfl) (E.call rfl go58 rfl (send_ok (p := p) (m := ⟨2, 0, m.frm, 0, 0, 0, 0, [], false⟩) (by repeat (first | exact Ent.refl _ | (apply Ent.cons; (· repeat (first | exact Pick.here | (refine Pick.sl ?_; (· repeat (first | exact List.Mem.head _ | assumption | apply List.Mem.tail))) | apply Pick.there))) | (refine Ent.trans (Ent.drop _ _) ?_))) memX (by omega))) rfl ?_
     rintro _ _ ⟨a77, c77, rfl, rfl⟩
     refine RL.nil ?_
     refine SG.doneE (Ret.none Try.func70 rfl) ?_ ⟨rfl, rfl⟩
     refine Nd.ent (la := la) (ln := p.log.length) (lc := lc) (va := va) (vn := p.votes.length) (vc := vc) (ma := ma) (mn := p.mtch.length) (mc := mc) (oa := a77) (on := out.length + 1) (oc := c77) ?_
     exact entX
   ·
    refine RH.pure 19 rfl krX krX krX krX (Wanted.yes rfl rfl rfl rfl) (V.pick_true rfl rfl rfl) rfl ?_
    refine RH.pure 20 rfl krX krX krX krX (Wanted.free rfl) (V.pick_false rfl rfl rfl) rfl ?_
    refine RH.val 21 rfl krX krX krX krX (Wanted.free rfl) (V.assign rfl rfl) rfl ?_
    refine RH.done krX ?_
    refine SG.seq ?_
    refine SG.drawL 30 30 wide rfl rfl ?_
    refine RH.val 0 rfl krX krX krX krX (Wanted.free rfl) (V.fieldAddr rfl rfl fo50_3) rfl ?_
    refine RH.val 1 rfl krX krX krX krX (Wanted.free rfl) (V.load rfl on3 rfl pickX rfl) rfl ?_
    refine RH.val 2 rfl krX krX krX krX (Wanted.free rfl) (V.move rfl rfl) rfl ?_
    refine RH.val 3 rfl krX krX krX krX (Wanted.free rfl) (V.nilCheck rfl rfl) rfl ?_
    refine RH.val 4 rfl krX krX krX krX (Wanted.free rfl) (V.fieldAddr rfl rfl fo94_0) rfl ?_
    refine RH.val 5 rfl krX krX krX krX (Wanted.free rfl) (V.fieldAddr rfl rfl fo26_2) rfl ?_
    refine RH.val 6 rfl krX krX krX krX (Wanted.free rfl) (V.load rfl on3 rfl pickX rfl) rfl ?_
    refine RH.cmp 7 rfl krX krX krX krX (Wanted.free rfl) (V.bin rfl rfl rfl B.eql) rfl (fun h191 => ?_) (fun h191 => ?_)
    ·
     refine RH.val 8 rfl krX krX krX krX (Wanted.free rfl) (V.move rfl rfl) rfl ?_
     refine RH.val 9 rfl krX krX krX krX (Wanted.yes rfl rfl rfl rfl) (V.move rfl rfl) rfl ?_
     refine RH.pure 10 rfl krX krX krX krX (Wanted.free rfl) (V.pick_true rfl rfl rfl) rfl ?_
     refine RH.val 11 rfl krX krX krX krX (Wanted.free rfl) (V.move rfl rfl) rfl ?_
     refine RH.skip 12 rfl krX krX krX krX (Wanted.no rfl rfl rfl rfl rfl) rfl ?_
     refine RH.skip 13 rfl krX krX krX krX (Wanted.no rfl rfl rfl rfl rfl) rfl ?_
     refine RH.skip 14 rfl krX krX krX krX (Wanted.no rfl rfl rfl rfl rfl) rfl ?_
     refine RH.skip 15 rfl krX krX krX krX (Wanted.no rfl rfl rfl rfl rfl) rfl ?_
     refine RH.skip 16 rfl krX krX krX krX (Wanted.no rfl rfl rfl rfl rfl) rfl ?_
     refine RH.skip 17 rfl krX krX krX krX (Wanted.no rfl rfl rfl rfl rfl) rfl ?_
     refine RH.skip 18 rfl krX krX krX krX (Wanted.no rfl rfl rfl rfl rfl) rfl ?_
     refine RH.skip 19 rfl krX krX krX krX (Wanted.un rfl rfl rfl) rfl ?_
     refine RH.skip 20 rfl krX krX krX krX (Wanted.un rfl rfl rfl) rfl ?_
     refine RH.skip 21 rfl krX krX krX krX (Wanted.un rfl rfl rfl) rfl ?_
     refine RH.skip 22 rfl krX krX krX krX (Wanted.un rfl rfl rfl) rfl ?_
     refine RH.skip 23 rfl krX krX krX krX (Wanted.un rfl rfl rfl) rfl ?_
     refine RH.skip 24 rfl krX krX krX krX (Wanted.un rfl rfl rfl) rfl ?_
     refine RH.skip 25 rfl krX krX krX krX (Wanted.un rfl rfl rfl) rfl ?_
     refine RH.skip 26 rfl krX krX krX krX (Wanted.un rfl rfl rfl) rfl ?_
     refine RH.skip 27 rfl krX krX krX krX (Wanted.no rfl rfl rfl rfl rfl) rfl ?_
     refine RH.pure 28 rfl krX krX krX krX (Wanted.free rfl) (V.pick_false rfl rfl rfl) rfl ?_
     refine RH.val 29 rfl krX krX krX krX (Wanted.free rfl) (V.assign rfl rfl) rfl ?_
     refine RH.done krX ?_
     refine SG.seq ?_
     refine SG.seq ?_
     refine SG.region ?_
     refine RL.val (Wanted.free rfl) (V.move rfl rfl) rfl ?_
     refine RL.nil ?_
     refine SG.cond_false rfl ?_
     refine SG.skip ?_
     have hg : ¬ grants p m := by unfold grants recent; omega
     have hvp : voteP p m = p := if_neg hg
     have hvm : voteM p m = ⟨2, p.id, m.frm, p.term, 0, 0, 0, [], false⟩ := by rw [voteM, decide_eq_false hg]
     rw [hvp, hvm]
     refine SG.ent (?_ : Ent _ (Blk b 94 (nv p (.slice la p.log.length lc) (.slice va p.votes.length vc) (.slice ma p.mtch.length mc) (.slice oa out.length oc)) :: Buf RSlot 53 la p.log.length lc p.log :: Buf RB 4 va p.votes.length vc p.votes :: Buf RI 3 ma p.mtch.length mc p.mtch :: Buf RMsg 50 oa out.length oc out :: Blk b3 50 (mv m (.slice sa m.slots.length sc)) :: L1)) ?_
     ·
      exact entX
     refine SG.ent (Sl.nil (T := RSlot)) ?_
     refine SG.ent (RMsg.mk (m := ⟨2, 0, m.frm, 0, 0, 0, 0, [], false⟩) memX) ?_
     refine SG.region ?_
     refine RL.val (Wanted.free rfl) (V.move rfl rfl) rfl ?_
     refine RL.val (Wanted.free rfl) (V.fieldAddr rfl rfl fo50_1) rfl ?_
     refine RL.val (Wanted.free rfl) (V.load rfl on3 rfl pickX rfl) rfl ?_
     refine RL.val (Wanted.free rfl) (V.move rfl rfl) rfl ?_
     refine RL.val (Wanted.free rfl) (V.buildS [(0, _), (2, _), (8, _)] rfl bs50 (by exact ⟨rfl, ⟨_, rfl, rfl⟩, ⟨rfl, ⟨_, rfl, rfl⟩, ⟨rfl, ⟨_, rfl, rfl⟩, trivial⟩⟩⟩) rfl) rfl ?_
     refine RL.eff (Wanted.free rfl) (E.call rfl go58 rfl (send_ok (p := p) (m := ⟨2, 0, m.frm, 0, 0, 0, 0, [], false⟩) (by repeat (first | exact Ent.refl _ | (apply Ent.cons; (· repeat (first | exact Pick.here | (refine Pick.sl ?_; (· repeat (first | exact List.Mem.head _ | assumption | apply List.Mem.tail))) | apply Pick.there))) | (refine Ent.trans (Ent.drop _ _) ?_))) memX (by omega))) rfl ?_
     rintro _ _ ⟨a77, c77, rfl, rfl⟩
     refine RL.nil ?_
     refine SG.doneE (Ret.none Try.func70 rfl) ?_ ⟨rfl, rfl⟩
     refine Nd.ent (la := la) (ln := p.log.length) (lc := lc) (va := va) (vn := p.votes.length) (vc := vc) (ma := ma) (mn := p.mtch.length) (mc := mc) (oa := a77) (on := out.length + 1) (oc := c77) ?_
     exact entX
    ·
     refine RH.val 8 rfl krX krX krX krX (Wanted.free rfl) (V.move rfl rfl) rfl ?_
     refine RH.skip 9 rfl krX krX krX krX (Wanted.no rfl rfl rfl rfl rfl) rfl ?_
     refine RH.pure 10 rfl krX krX krX krX (Wanted.free rfl) (V.pick_false rfl rfl rfl) rfl ?_
     refine RH.val 11 rfl krX krX krX krX (Wanted.free rfl) (V.move rfl rfl) rfl ?_
     refine RH.skip 12 rfl krX krX krX krX (Wanted.no rfl rfl rfl rfl rfl) rfl ?_
     refine RH.skip 13 rfl krX krX krX krX (Wanted.no rfl rfl rfl rfl rfl) rfl ?_
     refine RH.skip 14 rfl krX krX krX krX (Wanted.no rfl rfl rfl rfl rfl) rfl ?_
     refine RH.skip 15 rfl krX krX krX krX (Wanted.no rfl rfl rfl rfl rfl) rfl ?_
     refine RH.skip 16 rfl krX krX krX krX (Wanted.no rfl rfl rfl rfl rfl) rfl ?_
     refine RH.skip 17 rfl krX krX krX krX (Wanted.no rfl rfl rfl rfl rfl) rfl ?_
     refine RH.skip 18 rfl krX krX krX krX (Wanted.no rfl rfl rfl rfl rfl) rfl ?_
     refine RH.skip 19 rfl krX krX krX krX (Wanted.un rfl rfl rfl) rfl ?_
     refine RH.skip 20 rfl krX krX krX krX (Wanted.un rfl rfl rfl) rfl ?_
     refine RH.skip 21 rfl krX krX krX krX (Wanted.un rfl rfl rfl) rfl ?_
     refine RH.skip 22 rfl krX krX krX krX (Wanted.un rfl rfl rfl) rfl ?_
     refine RH.skip 23 rfl krX krX krX krX (Wanted.un rfl rfl rfl) rfl ?_
     refine RH.skip 24 rfl krX krX krX krX (Wanted.un rfl rfl rfl) rfl ?_
     refine RH.skip 25 rfl krX krX krX krX (Wanted.un rfl rfl rfl) rfl ?_
     refine RH.skip 26 rfl krX krX krX krX (Wanted.un rfl rfl rfl) rfl ?_
     refine RH.skip 27 rfl krX krX krX krX (Wanted.no rfl rfl rfl rfl rfl) rfl ?_
     refine RH.pure 28 rfl krX krX krX krX (Wanted.free rfl) (V.pick_false rfl rfl rfl) rfl ?_
     refine RH.val 29 rfl krX krX krX krX (Wanted.free rfl) (V.assign rfl rfl) rfl ?_
     refine RH.done krX ?_
     refine SG.seq ?_
     refine SG.seq ?_
     refine SG.region ?_
     refine RL.val (Wanted.free rfl) (V.move rfl rfl) rfl ?_
     refine RL.nil ?_
     refine SG.cond_false rfl ?_
     refine SG.skip ?_
     have hg : ¬ grants p m := by unfold grants recent; omega
     have hvp : voteP p m = p := if_neg hg
     have hvm : voteM p m = ⟨2, p.id, m.frm, p.term, 0, 0, 0, [], false⟩ := by rw [voteM, decide_eq_false hg]
     rw [hvp, hvm]
     refine SG.ent (?_ : Ent _ (Blk b 94 (nv p (.slice la p.log.length lc) (.slice va p.votes.length vc) (.slice ma p.mtch.length mc) (.slice oa out.length oc)) :: Buf RSlot 53 la p.log.length lc p.log :: Buf RB 4 va p.votes.length vc p.votes :: Buf RI 3 ma p.mtch.length mc p.mtch :: Buf RMsg 50 oa out.length oc out :: Blk b3 50 (mv m (.slice sa m.slots.length sc)) :: L1)) ?_
     ·
      exact entX
     refine SG.ent (Sl.nil (T := RSlot)) ?_
     refine SG.ent (RMsg.mk (m := ⟨2, 0, m.frm, 0, 0, 0, 0, [], false⟩) memX) ?_
     refine SG.region ?_
     refine RL.val (Wanted.free rfl) (V.move rfl rfl) rfl ?_
     refine RL.val (Wanted.free rfl) (V.fieldAddr rfl rfl fo50_1) rfl ?_
     refine RL.val (Wanted.free rfl) (V.load rfl on3 rfl pickX rfl) rfl ?_
     refine RL.val (Wanted.free rfl) (V.move rfl rfl) rfl ?_
     refine RL.val (Wanted.free rfl) (V.buildS [(0, _), (2, _), (8, _)] rfl bs50 (by exact ⟨rfl, ⟨_, rfl, rfl⟩, ⟨rfl, ⟨_, rfl, rfl⟩, ⟨rfl, ⟨_, rfl, rfl⟩, trivial⟩⟩⟩) rfl) rfl ?_
     refine RL.eff (Wanted.free rfl) (E.call rfl go58 rfl (send_ok (p := p) (m := ⟨2, 0, m.frm, 0, 0, 0, 0, [], false⟩) (by repeat (first | exact Ent.refl _ | (apply Ent.cons; (· repeat (first | exact Pick.here | (refine Pick.sl ?_; (· repeat (first | exact List.Mem.head _ | assumption | apply List.Mem.tail))) | apply Pick.there))) | (refine Ent.trans (Ent.drop _ _) ?_))) memX (by omega))) rfl ?_
     rintro _ _ ⟨a77, c77, rfl, rfl⟩
     refine RL.nil ?_
     refine SG.doneE (Ret.none Try.func70 rfl) ?_ ⟨rfl, rfl⟩
     refine Nd.ent (la := la) (ln := p.log.length) (lc := lc) (va := va) (vn := p.votes.length) (vc := vc) (ma := ma) (mn := p.mtch.length) (mc := mc) (oa := a77) (on := out.length + 1) (oc := c77) ?_
     exact entX
  ·
   refine RH.val 9 rfl krX krX krX krX (Wanted.yes rfl rfl rfl rfl) (V.move rfl rfl) rfl ?_
   refine RH.skip 10 rfl krX krX krX krX (Wanted.no rfl rfl rfl rfl rfl) rfl ?_
   refine RH.skip 11 rfl krX krX krX krX (Wanted.no rfl rfl rfl rfl rfl) rfl ?_
   refine RH.skip 12 rfl krX krX krX krX (Wanted.no rfl rfl rfl rfl rfl) rfl ?_
   refine RH.skip 13 rfl krX krX krX krX (Wanted.no rfl rfl rfl rfl rfl) rfl ?_
   refine RH.skip 14 rfl krX krX krX krX (Wanted.no rfl rfl rfl rfl rfl) rfl ?_
   refine RH.skip 15 rfl krX krX krX krX (Wanted.no rfl rfl rfl rfl rfl) rfl ?_
   refine RH.skip 16 rfl krX krX krX krX (Wanted.no rfl rfl rfl rfl rfl) rfl ?_
   refine RH.skip 17 rfl krX krX krX krX (Wanted.no rfl rfl rfl rfl rfl) rfl ?_
   refine RH.skip 18 rfl krX krX krX krX (Wanted.no rfl rfl rfl rfl rfl) rfl ?_
   refine RH.pure 19 rfl krX krX krX krX (Wanted.yes rfl rfl rfl rfl) (V.pick_false rfl rfl rfl) rfl ?_
   refine RH.pure 20 rfl krX krX krX krX (Wanted.free rfl) (V.pick_false rfl rfl rfl) rfl ?_
   refine RH.val 21 rfl krX krX krX krX (Wanted.free rfl) (V.assign rfl rfl) rfl ?_
   refine RH.done krX ?_
   refine SG.seq ?_
   refine SG.drawL 30 30 wide rfl rfl ?_
   refine RH.val 0 rfl krX krX krX krX (Wanted.free rfl) (V.fieldAddr rfl rfl fo50_3) rfl ?_
   refine RH.val 1 rfl krX krX krX krX (Wanted.free rfl) (V.load rfl on3 rfl pickX rfl) rfl ?_
   refine RH.val 2 rfl krX krX krX krX (Wanted.free rfl) (V.move rfl rfl) rfl ?_
   refine RH.val 3 rfl krX krX krX krX (Wanted.free rfl) (V.nilCheck rfl rfl) rfl ?_
   refine RH.val 4 rfl krX krX krX krX (Wanted.free rfl) (V.fieldAddr rfl rfl fo94_0) rfl ?_
   refine RH.val 5 rfl krX krX krX krX (Wanted.free rfl) (V.fieldAddr rfl rfl fo26_2) rfl ?_
   refine RH.val 6 rfl krX krX krX krX (Wanted.free rfl) (V.load rfl on3 rfl pickX rfl) rfl ?_
   refine RH.cmp 7 rfl krX krX krX krX (Wanted.free rfl) (V.bin rfl rfl rfl B.eql) rfl (fun h222 => ?_) (fun h222 => ?_)
   ·
    refine RH.val 8 rfl krX krX krX krX (Wanted.free rfl) (V.move rfl rfl) rfl ?_
    refine RH.val 9 rfl krX krX krX krX (Wanted.yes rfl rfl rfl rfl) (V.move rfl rfl) rfl ?_
    refine RH.pure 10 rfl krX krX krX krX (Wanted.free rfl) (V.pick_true rfl rfl rfl) rfl ?_
    refine RH.val 11 rfl krX krX krX krX (Wanted.free rfl) (V.move rfl rfl) rfl ?_
    refine RH.skip 12 rfl krX krX krX krX (Wanted.no rfl rfl rfl rfl rfl) rfl ?_
    refine RH.skip 13 rfl krX krX krX krX (Wanted.no rfl rfl rfl rfl rfl) rfl ?_
    refine RH.skip 14 rfl krX krX krX krX (Wanted.no rfl rfl rfl rfl rfl) rfl ?_
    refine RH.skip 15 rfl krX krX krX krX (Wanted.no rfl rfl rfl rfl rfl) rfl ?_
    refine RH.skip 16 rfl krX krX krX krX (Wanted.no rfl rfl rfl rfl rfl) rfl ?_
    refine RH.skip 17 rfl krX krX krX krX (Wanted.no rfl rfl rfl rfl rfl) rfl ?_
    refine RH.skip 18 rfl krX krX krX krX (Wanted.no rfl rfl rfl rfl rfl) rfl ?_
    refine RH.skip 19 rfl krX krX krX krX (Wanted.un rfl rfl rfl) rfl ?_
    refine RH.skip 20 rfl krX krX krX krX (Wanted.un rfl rfl rfl) rfl ?_
    refine RH.skip 21 rfl krX krX krX krX (Wanted.un rfl rfl rfl) rfl ?_
    refine RH.skip 22 rfl krX krX krX krX (Wanted.un rfl rfl rfl) rfl ?_
    refine RH.skip 23 rfl krX krX krX krX (Wanted.un rfl rfl rfl) rfl ?_
    refine RH.skip 24 rfl krX krX krX krX (Wanted.un rfl rfl rfl) rfl ?_
    refine RH.skip 25 rfl krX krX krX krX (Wanted.un rfl rfl rfl) rfl ?_
    refine RH.skip 26 rfl krX krX krX krX (Wanted.un rfl rfl rfl) rfl ?_
    refine RH.skip 27 rfl krX krX krX krX (Wanted.no rfl rfl rfl rfl rfl) rfl ?_
    refine RH.pure 28 rfl krX krX krX krX (Wanted.free rfl) (V.pick_false rfl rfl rfl) rfl ?_
    refine RH.val 29 rfl krX krX krX krX (Wanted.free rfl) (V.assign rfl rfl) rfl ?_
    refine RH.done krX ?_
    refine SG.seq ?_
    refine SG.seq ?_
    refine SG.region ?_
    refine RL.val (Wanted.free rfl) (V.move rfl rfl) rfl ?_
    refine RL.nil ?_
    refine SG.cond_false rfl ?_
    refine SG.skip ?_
    have hg : ¬ grants p m := by unfold grants recent; omega
    have hvp : voteP p m = p := if_neg hg
    have hvm : voteM p m = ⟨2, p.id, m.frm, p.term, 0, 0, 0, [], false⟩ := by rw [voteM, decide_eq_false hg]
    rw [hvp, hvm]
    refine SG.ent (?_ : Ent _ (Blk b 94 (nv p (.slice la p.log.length lc) (.slice va p.votes.length vc) (.slice ma p.mtch.length mc) (.slice oa out.length oc)) :: Buf RSlot 53 la p.log.length lc p.log :: Buf RB 4 va p.votes.length vc p.votes :: Buf RI 3 ma p.mtch.length mc p.mtch :: Buf RMsg 50 oa out.length oc out :: Blk b3 50 (mv m (.slice sa m.slots.length sc)) :: L1)) ?_
    ·
     exact entX
    refine SG.ent (Sl.nil (T := RSlot)) ?_
    refine SG.ent (RMsg.mk (m := ⟨2, 0, m.frm, 0, 0, 0, 0, [], false⟩) memX) ?_
    refine SG.region ?_
    refine RL.val (Wanted.free rfl) (V.move rfl rfl) rfl ?_
    refine RL.val (Wanted.free rfl) (V.fieldAddr rfl rfl fo50_1) rfl ?_
    refine RL.val (Wanted.free rfl) (V.load rfl on3 rfl pickX rfl) rfl ?_
    refine RL.val (Wanted.free rfl) (V.move rfl rfl) rfl ?_
    refine RL.val (Wanted.free rfl) (V.buildS [(0, _), (2, _), (8, _)] rfl bs50 (by exact ⟨rfl, ⟨_, rfl, rfl⟩, ⟨rfl, ⟨_, rfl, rfl⟩, ⟨rfl, ⟨_, rfl, rfl⟩, trivial⟩⟩⟩) rfl) rfl ?_
    refine RL.eff (Wanted.free rfl) (E.call rfl go58 rfl (send_ok (p := p) (m := ⟨2, 0, m.frm, 0, 0, 0, 0, [], false⟩) (by repeat (first | exact Ent.refl _ | (apply Ent.cons; (· repeat (first | exact Pick.here | (refine Pick.sl ?_; (· repeat (first | exact List.Mem.head _ | assumption | apply List.Mem.tail))) | apply Pick.there))) | (refine Ent.trans (Ent.drop _ _) ?_))) memX (by omega))) rfl ?_
    rintro _ _ ⟨a77, c77, rfl, rfl⟩
    refine RL.nil ?_
    refine SG.doneE (Ret.none Try.func70 rfl) ?_ ⟨rfl, rfl⟩
    refine Nd.ent (la := la) (ln := p.log.length) (lc := lc) (va := va) (vn := p.votes.length) (vc := vc) (ma := ma) (mn := p.mtch.length) (mc := mc) (oa := a77) (on := out.length + 1) (oc := c77) ?_
    exact entX
   ·
    refine RH.val 8 rfl krX krX krX krX (Wanted.free rfl) (V.move rfl rfl) rfl ?_
    refine RH.skip 9 rfl krX krX krX krX (Wanted.no rfl rfl rfl rfl rfl) rfl ?_
    refine RH.pure 10 rfl krX krX krX krX (Wanted.free rfl) (V.pick_false rfl rfl rfl) rfl ?_
    refine RH.val 11 rfl krX krX krX krX (Wanted.free rfl) (V.move rfl rfl) rfl ?_
    refine RH.skip 12 rfl krX krX krX krX (Wanted.no rfl rfl rfl rfl rfl) rfl ?_
    refine RH.skip 13 rfl krX krX krX krX (Wanted.no rfl rfl rfl rfl rfl) rfl ?_
    refine RH.skip 14 rfl krX krX krX krX (Wanted.no rfl rfl rfl rfl rfl) rfl ?_
    refine RH.skip 15 rfl krX krX krX krX (Wanted.no rfl rfl rfl rfl rfl) rfl ?_
    refine RH.skip 16 rfl krX krX krX krX (Wanted.no rfl rfl rfl rfl rfl) rfl ?_
    refine RH.skip 17 rfl krX krX krX krX (Wanted.no rfl rfl rfl rfl rfl) rfl ?_
    refine RH.skip 18 rfl krX krX krX krX (Wanted.no rfl rfl rfl rfl rfl) rfl ?_
    refine RH.skip 19 rfl krX krX krX krX (Wanted.un rfl rfl rfl) rfl ?_
    refine RH.skip 20 rfl krX krX krX krX (Wanted.un rfl rfl rfl) rfl ?_
    refine RH.skip 21 rfl krX krX krX krX (Wanted.un rfl rfl rfl) rfl ?_
    refine RH.skip 22 rfl krX krX krX krX (Wanted.un rfl rfl rfl) rfl ?_
    refine RH.skip 23 rfl krX krX krX krX (Wanted.un rfl rfl rfl) rfl ?_
    refine RH.skip 24 rfl krX krX krX krX (Wanted.un rfl rfl rfl) rfl ?_
    refine RH.skip 25 rfl krX krX krX krX (Wanted.un rfl rfl rfl) rfl ?_
    refine RH.skip 26 rfl krX krX krX krX (Wanted.un rfl rfl rfl) rfl ?_
    refine RH.skip 27 rfl krX krX krX krX (Wanted.no rfl rfl rfl rfl rfl) rfl ?_
    refine RH.pure 28 rfl krX krX krX krX (Wanted.free rfl) (V.pick_false rfl rfl rfl) rfl ?_
    refine RH.val 29 rfl krX krX krX krX (Wanted.free rfl) (V.assign rfl rfl) rfl ?_
    refine RH.done krX ?_
    refine SG.seq ?_
    refine SG.seq ?_
    refine SG.region ?_
    refine RL.val (Wanted.free rfl) (V.move rfl rfl) rfl ?_
    refine RL.nil ?_
    refine SG.cond_false rfl ?_
    refine SG.skip ?_
    have hg : ¬ grants p m := by unfold grants recent; omega
    have hvp : voteP p m = p := if_neg hg
    have hvm : voteM p m = ⟨2, p.id, m.frm, p.term, 0, 0, 0, [], false⟩ := by rw [voteM, decide_eq_false hg]
    rw [hvp, hvm]
    refine SG.ent (?_ : Ent _ (Blk b 94 (nv p (.slice la p.log.length lc) (.slice va p.votes.length vc) (.slice ma p.mtch.length mc) (.slice oa out.length oc)) :: Buf RSlot 53 la p.log.length lc p.log :: Buf RB 4 va p.votes.length vc p.votes :: Buf RI 3 ma p.mtch.length mc p.mtch :: Buf RMsg 50 oa out.length oc out :: Blk b3 50 (mv m (.slice sa m.slots.length sc)) :: L1)) ?_
    ·
     exact entX
    refine SG.ent (Sl.nil (T := RSlot)) ?_
    refine SG.ent (RMsg.mk (m := ⟨2, 0, m.frm, 0, 0, 0, 0, [], false⟩) memX) ?_
    refine SG.region ?_
    refine RL.val (Wanted.free rfl) (V.move rfl rfl) rfl ?_
    refine RL.val (Wanted.free rfl) (V.fieldAddr rfl rfl fo50_1) rfl ?_
    refine RL.val (Wanted.free rfl) (V.load rfl on3 rfl pickX rfl) rfl ?_
    refine RL.val (Wanted.free rfl) (V.move rfl rfl) rfl ?_
    refine RL.val (Wanted.free rfl) (V.buildS [(0, _), (2, _), (8, _)] rfl bs50 (by exact ⟨rfl, ⟨_, rfl, rfl⟩, ⟨rfl, ⟨_, rfl, rfl⟩, ⟨rfl, ⟨_, rfl, rfl⟩, trivial⟩⟩⟩) rfl) rfl ?_
    refine RL.eff (Wanted.free rfl) (E.call rfl go58 rfl (send_ok (p := p) (m := ⟨2, 0, m.frm, 0, 0, 0, 0, [], false⟩) (by repeat (first | exact Ent.refl _ | (apply Ent.cons; (· repeat (first | exact Pick.here | (refine Pick.sl ?_; (· repeat (first | exact List.Mem.head _ | assumption | apply List.Mem.tail))) | apply Pick.there))) | (refine Ent.trans (Ent.drop _ _) ?_))) memX (by omega))) rfl ?_
    rintro _ _ ⟨a77, c77, rfl, rfl⟩
    refine RL.nil ?_
    refine SG.doneE (Ret.none Try.func70 rfl) ?_ ⟨rfl, rfl⟩
    refine Nd.ent (la := la) (ln := p.log.length) (lc := lc) (va := va) (vn := p.votes.length) (vc := vc) (ma := ma) (mn := p.mtch.length) (mc := mc) (oa := a77) (on := out.length + 1) (oc := c77) ?_
    exact entX

set_option maxRecDepth 100000 in
set_option maxHeartbeats 1000000 in
theorem voted_okw {κ : World} {L : List Assn} {L1 : List Assn} {b : Nat} {p : Peer} {out : List Msg} (hp : Pick (Nd b p out) L L1) {us : List Value} {m : Msg} (hm : Rd RMsg us m ∈ L1) (_ : out.length ≤ 10) (hb1 : p.log.length ≤ 900000) (hb2 : p.votes.length ≤ 1000) (_ : p.mtch.length ≤ 1000) (hn1 : 1 ≤ p.nodes) (hn5 : p.nodes ≤ 5) (hi0 : 0 ≤ p.id) (hi1 : p.id < p.nodes) (_ : 0 ≤ p.term) (_ : p.term ≤ 1000000) (hvn : p.role = 1 → p.votes.length = p.nodes.toNat) (hf0 : 0 ≤ m.frm) (hf1 : m.frm < p.nodes) :
    Ctr Try.prog 71 #[ptr b 0, .agg us.toArray] κ L (fun v M => v = .tuple #[] ∧ M = Nd b (votedP p m) out :: L1) := by
 refine Ctr.enter (vs := [ptr b 0, .agg us.toArray]) (m := 45) Try.func71 rfl rfl rfl ?_
 refine SG.openNd hp fun la ln lc va vn vc ma mn mc oa on oc => ?_
 refine SG.openMsg (Pick.rd (show Rd RMsg us m ∈ _ from memX)) fun sa sn sc hus => ?_
 subst hus
 refine SG.buf (T := RSlot) (a := la) pickX fun hll _ _ => ?_
 refine SG.buf (T := RB) (a := va) pickX fun hvl _ _ => ?_
 refine SG.buf (T := RI) (a := ma) pickX fun hml _ _ => ?_
 refine SG.buf (T := RMsg) (a := oa) pickX fun hol _ _ => ?_
 refine SG.sl (T := RSlot) (a := sa) memX fun hsl _ _ => ?_
 subst hll; subst hvl; subst hml; subst hol; subst hsl
 refine SG.seq ?_
 refine SG.region ?_
 refine RL.eff (Wanted.free rfl) (E.box _ rfl rfl rfl) rfl ?_
 rintro _ _ ⟨b3, rfl, rfl⟩
 refine RL.nil ?_
 refine SG.seq ?_
 refine SG.seq ?_
 refine SG.region ?_
 refine RL.val (Wanted.free rfl) (V.move rfl rfl) rfl ?_
 refine RL.val (Wanted.free rfl) (V.nilCheck rfl rfl) rfl ?_
 refine RL.val (Wanted.free rfl) (V.fieldAddr rfl rfl fo94_0) rfl ?_
 refine RL.val (Wanted.free rfl) (V.fieldAddr rfl rfl fo26_4) rfl ?_
 refine RL.val (Wanted.free rfl) (V.load rfl on3 rfl pickX rfl) rfl ?_
 refine RL.cmp (Wanted.free rfl) (V.bin rfl rfl rfl B.neq) rfl (fun h7 => ?_) (fun h7 => ?_)
 ·
  have hvp : votedP p m = p := if_pos (by omega)
  refine RL.nil ?_
  refine SG.cond_true rfl ?_
  rw [hvp]
  refine SG.retE (Ret.none Try.func71 rfl) ?_ ⟨rfl, rfl⟩
  refine Nd.ent (la := la) (ln := p.log.length) (lc := lc) (va := va) (vn := p.votes.length) (vc := vc) (ma := ma) (mn := p.mtch.length) (mc := mc) (oa := oa) (on := out.length) (oc := oc) ?_
  exact entX
 ·
  refine RL.nil ?_
  refine SG.cond_false rfl ?_
  refine SG.skip ?_
  refine SG.seq ?_
  have hr1 : p.role = 1 := by omega
  have hv2 := hvn hr1
  refine SG.drawL 9 8 wide rfl rfl ?_
  refine RH.val 0 rfl krX krX krX krX (Wanted.free rfl) (V.move rfl rfl) rfl ?_
  refine RH.val 1 rfl krX krX krX krX (Wanted.free rfl) (V.nilCheck rfl rfl) rfl ?_
  refine RH.val 2 rfl krX krX krX krX (Wanted.free rfl) (V.fieldAddr rfl rfl fo94_0) rfl ?_
  refine RH.val 3 rfl krX krX krX krX (Wanted.free rfl) (V.fieldAddr rfl rfl fo26_7) rfl ?_
  refine RH.val 4 rfl krX krX krX krX (Wanted.free rfl) (V.load rfl on24 rfl pickX rfl) rfl ?_
  refine RH.val 5 rfl krX krX krX krX (Wanted.free rfl) (V.fieldAddr rfl rfl fo50_1) rfl ?_
  refine RH.val 6 rfl krX krX krX krX (Wanted.free rfl) (V.load rfl on3 rfl pickX rfl) rfl ?_
  refine RH.val 7 rfl krX krX krX krX (Wanted.free rfl) (V.indexBuf (j := m.frm.toNat) rfl el24.slice rfl rfl pickX (by first | rfl | omega) (by omega)) rfl ?_
  refine RH.one (i := 8) krX ?_
  refine RHone.eff rfl (Wanted.free rfl) (E.storeBuf [vB true] rfl sz4 rfl rfl rfl pickX (by omega) (fun _ _ _ => ⟨rfl, trivial⟩)) rfl ?_
  rintro _ _ rfl
  refine ⟨.inl krX, ?_⟩
  refine RH.done krX ?_
  refine SG.seq ?_
  have hal : (addVote p m.frm).votes.length = p.votes.length := List.length_set ..
  refine SG.ent (?_ : Ent _ (Blk b 94 (nv (addVote p m.frm) (.slice la p.log.length lc) (.slice va p.votes.length vc) (.slice ma p.mtch.length mc) (.slice oa out.length oc)) :: Buf RSlot 53 la p.log.length lc p.log :: Buf RB 4 va p.votes.length vc (addVote p m.frm).votes :: Buf RI 3 ma p.mtch.length mc p.mtch :: Buf RMsg 50 oa out.length oc out :: Blk b3 50 (mv m (.slice sa m.slots.length sc)) :: L1)) ?_
  ·
   exact entX
  refine SG.region ?_
  refine RL.val (Wanted.free rfl) (V.assign rfl rfl) rfl ?_
  refine RL.nil ?_
  refine SG.seq ?_
  refine SG.seq ?_
  refine SG.region ?_
  refine RL.val (Wanted.free rfl) (V.move rfl rfl) rfl ?_
  refine RL.val (Wanted.free rfl) (V.nilCheck rfl rfl) rfl ?_
  refine RL.val (Wanted.free rfl) (V.fieldAddr rfl rfl fo94_0) rfl ?_
  refine RL.val (Wanted.free rfl) (V.fieldAddr rfl rfl fo26_7) rfl ?_
  refine RL.val (Wanted.free rfl) (V.load rfl on24 rfl pickX rfl) rfl ?_
  refine RL.val (Wanted.free rfl) (V.len rfl rfl el24.under rfl) rfl ?_
  refine RL.val (Wanted.free rfl) (V.move rfl rfl) rfl ?_
  refine RL.nil ?_
  refine SG.block ?_
  refine SG.weaken (SG.loop2 (fun m0 al M => ∃ k : Nat, k ≤ p.votes.length ∧ m0 = p.votes.length - k ∧ al = [(0, ptr b 0), (4, vI (((addVote p m.frm).votes.take k).countP (· == true) : Nat)), (25, .slice va p.votes.length vc), (26, vI p.votes.length), (27, vI k)] ∧ M = Blk b 94 (nv (addVote p m.frm) (.slice la p.log.length lc) (.slice va p.votes.length vc) (.slice ma p.mtch.length mc) (.slice oa out.length oc)) :: Buf RSlot 53 la p.log.length lc p.log :: Buf RB 4 va p.votes.length vc (addVote p m.frm).votes :: Buf RI 3 ma p.mtch.length mc p.mtch :: Buf RMsg 50 oa out.length oc out :: Blk b3 50 (mv m (.slice sa m.slots.length sc)) :: L1) (m0 := _) ⟨0, by omega, rfl, rfl, rfl⟩ ?_) ?_ ?_
  rotate_left
  ·
   repeat (first | exact EnvLe.nil _ | refine EnvLe.cons rfl ?_)
  ·
   exact entX
  rintro _ _ _ ⟨k, hk, rfl, rfl, rfl⟩ ih0
  refine SG.seq ?_
  refine SG.region ?_
  refine RL.cmp (Wanted.free rfl) (V.bin rfl rfl rfl B.lss) rfl (fun h25 => ?_) (fun h25 => ?_)
  ·
   refine RL.nil ?_
   refine SG.seq ?_
   refine SG.cond_true rfl ?_
   refine SG.skip ?_
   refine SG.seq ?_
   refine SG.block ?_
   refine SG.seq ?_
   have hcb := cntB_step (l := (addVote p m.frm).votes) (k := k) (by omega)
   have hcl : ((addVote p m.frm).votes.take k).countP (· == true) ≤ k := Nat.le_trans List.countP_le_length (by rw [List.length_take]; omega)
   refine SG.region ?_
   refine RL.val (Wanted.free rfl) (V.indexBuf (j := k) rfl el24.slice rfl rfl pickX (by first | rfl | omega) (by omega)) rfl ?_
   refine RL.val (Wanted.free rfl) (V.loadBufSc rfl on4 rfl pickX (List.getElem?_eq_getElem (by omega))) rfl ?_
   refine RL.val (Wanted.free rfl) (V.assign rfl rfl) rfl ?_
   refine RL.nil ?_
   refine SG.seq ?_
   refine SG.region ?_
   refine RL.val (Wanted.free rfl) (V.move rfl rfl) rfl ?_
   refine RL.nil ?_
   refine SG.cond rfl (fun h30 => ?_) (fun h30 => ?_)
   ·
    have hb := h30
    refine SG.region ?_
    refine RL.val (Wanted.free rfl) (V.move rfl rfl) rfl ?_
    refine RL.val (Wanted.free rfl) (V.bin rfl rfl rfl (B.addI (by omega) (by omega))) rfl ?_
    refine RL.val (Wanted.free rfl) (V.assign rfl rfl) rfl ?_
    refine RL.nil ?_
    refine SG.inBlock ?_
    refine SG.region ?_
    refine RL.val (Wanted.free rfl) (V.bin rfl rfl rfl (B.addI (by omega) (by omega))) rfl ?_
    refine RL.val (Wanted.free rfl) (V.move rfl rfl) rfl ?_
    refine RL.nil ?_
    refine SG.weaken (ih0 _ _ _ ?_ ⟨k + 1, by omega, rfl, rfl, rfl⟩) ?_ ?_
    ·
     omega
    ·
     rw [hcb, if_pos hb, Int.natCast_add]
     repeat (first | exact EnvLe.nil _ | refine EnvLe.cons rfl ?_)
    ·
     exact entX
   ·
    have hb := (by simp [h30] : ¬ (addVote p m.frm).votes[k]'(by omega) = true)
    refine SG.skip ?_
    refine SG.inBlock ?_
    refine SG.region ?_
    refine RL.val (Wanted.free rfl) (V.bin rfl rfl rfl (B.addI (by omega) (by omega))) rfl ?_
    refine RL.val (Wanted.free rfl) (V.move rfl rfl) rfl ?_
    refine RL.nil ?_
    refine SG.weaken (ih0 _ _ _ ?_ ⟨k + 1, by omega, rfl, rfl, rfl⟩) ?_ ?_
    ·
     omega
    ·
     rw [hcb, if_neg hb, Nat.add_zero]
     repeat (first | exact EnvLe.nil _ | refine EnvLe.cons rfl ?_)
    ·
     exact entX
  ·
   refine RL.nil ?_
   refine SG.seq ?_
   refine SG.cond_false rfl ?_
   refine SG.exit rfl ?_
   refine SG.seq ?_
   obtain rfl : k = p.votes.length := by omega
   rw [show (addVote p m.frm).votes.take p.votes.length = (addVote p m.frm).votes from List.take_of_length_le (by omega)]
   have hcl : (addVote p m.frm).votes.countP (· == true) ≤ p.votes.length := Nat.le_trans List.countP_le_length (by omega)
   have hno : (addVote p m.frm).nodes = p.nodes := rfl
   refine SG.region ?_
   refine RL.val (Wanted.free rfl) (V.move rfl rfl) rfl ?_
   refine RL.val (Wanted.free rfl) (V.bin rfl rfl rfl (B.mulI (by omega) (by omega))) rfl ?_
   refine RL.val (Wanted.free rfl) (V.move rfl rfl) rfl ?_
   refine RL.val (Wanted.free rfl) (V.nilCheck rfl rfl) rfl ?_
   refine RL.val (Wanted.free rfl) (V.fieldAddr rfl rfl fo94_0) rfl ?_
   refine RL.val (Wanted.free rfl) (V.fieldAddr rfl rfl fo26_1) rfl ?_
   refine RL.val (Wanted.free rfl) (V.load rfl on3 rfl pickX rfl) rfl ?_
   refine RL.cmp (Wanted.free rfl) (V.bin rfl rfl rfl B.gtr) rfl (fun h45 => ?_) (fun h45 => ?_)
   ·
    have hvp : votedP p m = leadP (addVote p m.frm) := by rw [votedP, if_neg (by omega), if_pos (by omega)]
    refine RL.ent (?_ : Ent _ (Nd b (addVote p m.frm) out :: Blk b3 50 (mv m (.slice sa m.slots.length sc)) :: L1)) ?_
    ·
     refine Nd.ent (la := la) (ln := p.log.length) (lc := lc) (va := va) (vn := p.votes.length) (vc := vc) (ma := ma) (mn := p.mtch.length) (mc := mc) (oa := oa) (on := out.length) (oc := oc) ?_
     exact entX
    refine RL.nil ?_
    refine SG.cond_true rfl ?_
    refine SG.region ?_
    refine RL.val (Wanted.free rfl) (V.move rfl rfl) rfl ?_
    refine RL.eff (Wanted.free rfl) (E.call rfl go60 rfl (lead_okw (p := addVote p m.frm) pickX (by show 0 ≤ p.nodes; omega) (by show p.nodes ≤ 1000; omega) hi0 hi1 (by show p.log.length ≤ _; omega))) rfl ?_
    rintro _ _ ⟨rfl, rfl⟩
    refine RL.nil ?_
    rw [hvp]
    refine SG.doneE (Ret.none Try.func71 rfl) ?_ ⟨rfl, rfl⟩
    exact entX
   ·
    have hvp : votedP p m = addVote p m.frm := by rw [votedP, if_neg (by omega), if_neg (by omega)]
    refine RL.ent (?_ : Ent _ (Nd b (addVote p m.frm) out :: Blk b3 50 (mv m (.slice sa m.slots.length sc)) :: L1)) ?_
    ·
     refine Nd.ent (la := la) (ln := p.log.length) (lc := lc) (va := va) (vn := p.votes.length) (vc := vc) (ma := ma) (mn := p.mtch.length) (mc := mc) (oa := oa) (on := out.length) (oc := oc) ?_
     exact entX
    refine RL.nil ?_
    refine SG.cond_false rfl ?_
    refine SG.skip ?_
    rw [hvp]
    refine SG.doneE (Ret.none Try.func71 rfl) ?_ ⟨rfl, rfl⟩
    exact entX

end Go.Proofs.Ytilcnglcflohoaa
