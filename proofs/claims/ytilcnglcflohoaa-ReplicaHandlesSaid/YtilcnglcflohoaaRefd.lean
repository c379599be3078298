/- The reference: votes. -/
import Derived.Test.YtilcnglcflohoaaRefb
namespace Go.Proofs.Ytilcnglcflohoaa
open Go.Wk Go.Rp

set_option maxRecDepth 100000 in
theorem rdown_ok {κ : World} {L : List Assn} {us : List Value} {p : Peer} (hm : Rd RPeer us p ∈ L) {T : Int} :
    Ctr Try.prog 74 #[.agg us.toArray, vI T] κ L (fun v M => ∃ us', v = .agg us'.toArray ∧ M = Rd RPeer us' (down p T) :: L) := by
 refine Ctr.enter (vs := [.agg us.toArray, vI T]) (m := 12) Try.func74 rfl rfl rfl ?_
 refine SG.openPeer (Pick.rd hm) fun ka kn kc wa wn wc xa xn xc hus => ?_
 subst hus
 refine SG.ent (Sl.nil (T := RB)) ?_
 refine SG.ent (Sl.nil (T := RI)) ?_
 refine SG.seq ?_
 refine SG.region ?_
 refine RL.eff (Wanted.free rfl) (E.box _ rfl rfl rfl) rfl ?_
 rintro _ _ ⟨b2, rfl, rfl⟩
 refine RL.eff (Wanted.free rfl) (E.alloc rfl ze26) rfl ?_
 rintro _ _ ⟨b4, rfl, rfl⟩
 refine RL.nil ?_
 refine SG.seq ?_
 refine SG.region ?_
 refine RL.val (Wanted.free rfl) (V.move rfl rfl) rfl ?_
 refine RL.val (Wanted.free rfl) (V.fieldAddr rfl rfl fo26_2) rfl ?_
 refine RL.eff (Wanted.free rfl) (E.store1 rfl rfl rfl rfl rfl sz3 pickX rfl) rfl ?_
 rintro _ _ rfl
 refine RL.nil ?_
 refine SG.seq ?_
 refine SG.region ?_
 refine RL.val (Wanted.free rfl) (V.fieldAddr rfl rfl fo26_4) rfl ?_
 refine RL.eff (Wanted.free rfl) (E.store1 rfl rfl rfl rfl rfl sz3 pickX rfl) rfl ?_
 rintro _ _ rfl
 refine RL.nil ?_
 refine SG.seq ?_
 refine SG.region ?_
 refine RL.val (Wanted.free rfl) (V.fieldAddr rfl rfl fo26_3) rfl ?_
 refine RL.eff (Wanted.free rfl) (E.store1 rfl rfl rfl rfl rfl sz3 pickX rfl) rfl ?_
 rintro _ _ rfl
 refine RL.nil ?_
 refine SG.seq ?_
 refine SG.region ?_
 refine RL.val (Wanted.free rfl) (V.fieldAddr rfl rfl fo26_7) rfl ?_
 refine RL.eff (Wanted.free rfl) (E.store1 rfl rfl rfl rfl rfl sz24 pickX rfl) rfl ?_
 rintro _ _ rfl
 refine RL.nil ?_
 refine SG.seq ?_
 refine SG.region ?_
 refine RL.val (Wanted.free rfl) (V.fieldAddr rfl rfl fo26_8) rfl ?_
 refine RL.eff (Wanted.free rfl) (E.store1 rfl rfl rfl rfl rfl sz22 pickX rfl) rfl ?_
 rintro _ _ rfl
 refine RL.nil ?_
 refine SG.seq ?_
 refine SG.region ?_
 refine RL.val (Wanted.free rfl) (V.loadAgg (us := pv (down p T) (.slice ka kn kc) (.slice none 0 0) (.slice none 0 0)) rfl ag26 rfl pickX rfl rfl) rfl ?_
 refine RL.eff (Wanted.free rfl) (E.storeWhole rfl rfl rfl (by rfl) sz26 pickX pv_one (by rfl)) rfl ?_
 rintro _ _ rfl
 refine RL.nil ?_
 refine SG.ent (RPeer.mk (p := down p T) (la := ka) (ln := kn) (lc := kc) (va := none) (vn := 0) (vc := 0) (ma := none) (mn := 0) (mc := 0) memX memX memX) ?_
 refine SG.retE (Ret.r1 Try.func74 rfl (.agg rfl ag26 pickX rfl rfl)) ?_ ⟨_, rfl, rfl⟩
 exact entX

set_option maxRecDepth 100000 in
set_option maxHeartbeats 2000000 in
theorem rvote_ok {κ : World} {L : List Assn} {us ms : List Value} {p : Peer} {m : Msg} (hm : Rd RPeer us p ∈ L) (hmm : Rd RMsg ms m ∈ L) (hb : p.log.length ≤ 1000000) :
    Ctr Try.prog 75 #[.agg us.toArray, .agg ms.toArray] κ L (fun v M => ∃ us' a c, v = .tuple #[.agg us'.toArray, .slice a 1 c] ∧ M = Rd RPeer us' (voteP p m) :: Sl RMsg a 1 c [voteM p m] :: L) := by
 refine Ctr.enter (vs := [.agg us.toArray, .agg ms.toArray]) (m := 67) Try.func75 rfl rfl rfl ?_
 refine SG.openPeer (Pick.rd hm) fun ka kn kc wa wn wc xa xn xc hus => ?_
 subst hus
 refine SG.openMsg (us := ms) (m := m) (Pick.rd (T := RMsg) memX) fun sa sn sc hms => ?_
 subst hms
 refine SG.sl (T := RSlot) (a := ka) (l := p.log) memX fun hkn _ _ => ?_
 subst hkn
 have hlt : lastT p.log = termAt p.log p.log.length := rfl
 refine SG.seq ?_
 refine SG.region ?_
 refine RL.eff (Wanted.free rfl) (E.box _ rfl rfl rfl) rfl ?_
 rintro _ _ ⟨b2, rfl, rfl⟩
 refine RL.eff (Wanted.free rfl) (E.box _ rfl rfl rfl) rfl ?_
 rintro _ _ ⟨b3, rfl, rfl⟩
 refine RL.eff (Wanted.free rfl) (E.alloc rfl ze26) rfl ?_
 rintro _ _ ⟨b4, rfl, rfl⟩
 refine RL.val (Wanted.free rfl) (V.assign rfl rfl) rfl ?_
 refine RL.nil ?_
 refine SG.seq ?_
 refine SG.region ?_
 refine RL.val (Wanted.free rfl) (V.fieldAddr rfl rfl fo26_6) rfl ?_
 refine RL.val (Wanted.free rfl) (V.load rfl on23 rfl pickX rfl) rfl ?_
 refine RL.val (Wanted.free rfl) (V.fieldAddr rfl rfl fo26_6) rfl ?_
 refine RL.val (Wanted.free rfl) (V.load rfl on23 rfl pickX rfl) rfl ?_
 refine RL.val (Wanted.free rfl) (V.len rfl rfl el23.under rfl) rfl ?_
 refine RL.eff (Wanted.free rfl) (E.call rfl go62 rfl (rterm_ok (l := p.log) (i := (p.log.length : Int)) memX (by omega) (by omega))) rfl ?_
 rintro _ _ ⟨rfl, rfl⟩
 refine RL.val (Wanted.free rfl) (V.assign rfl rfl) rfl ?_
 refine RL.nil ?_
 refine SG.seq ?_
 refine SG.region ?_
 refine RL.val (Wanted.free rfl) (V.fieldAddr rfl rfl fo50_5) rfl ?_
 refine RL.val (Wanted.free rfl) (V.load rfl on3 rfl pickX rfl) rfl ?_
 refine RL.val (Wanted.free rfl) (V.move rfl rfl) rfl ?_
 refine RL.cmp (Wanted.free rfl) (V.bin rfl rfl rfl B.gtr) rfl (fun h15 => ?_) (fun h15 => ?_)
 ·
  refine RL.val (Wanted.free rfl) (V.move rfl rfl) rfl ?_
  refine RL.skip (Wanted.no rfl rfl rfl rfl rfl) rfl ?_
  refine RL.skip (Wanted.no rfl rfl rfl rfl rfl) rfl ?_
  refine RL.skip (Wanted.no rfl rfl rfl rfl rfl) rfl ?_
  refine RL.skip (Wanted.no rfl rfl rfl rfl rfl) rfl ?_
  refine RL.skip (Wanted.no rfl rfl rfl rfl rfl) rfl ?_
  refine RL.skip (Wanted.un rfl rfl rfl) rfl ?_
  refine RL.skip (Wanted.un rfl rfl rfl) rfl ?_
  refine RL.skip (Wanted.un rfl rfl rfl) rfl ?_
  refine RL.skip (Wanted.un rfl rfl rfl) rfl ?_
  refine RL.skip (Wanted.un rfl rfl rfl) rfl ?_
  refine RL.skip (Wanted.un rfl rfl rfl) rfl ?_
  refine RL.skip (Wanted.no rfl rfl rfl rfl rfl) rfl ?_
  refine RL.val (Wanted.free rfl) (V.pick_true rfl rfl rfl) rfl ?_
  refine RL.val (Wanted.free rfl) (V.assign rfl rfl) rfl ?_
  refine RL.nil ?_
  refine SG.seq ?_
  refine SG.region ?_
  refine RL.val (Wanted.free rfl) (V.fieldAddr rfl rfl fo50_3) rfl ?_
  refine RL.val (Wanted.free rfl) (V.load rfl on3 rfl pickX rfl) rfl ?_
  refine RL.val (Wanted.free rfl) (V.fieldAddr rfl rfl fo26_2) rfl ?_
  refine RL.val (Wanted.free rfl) (V.load rfl on3 rfl pickX rfl) rfl ?_
  refine RL.cmp (Wanted.free rfl) (V.bin rfl rfl rfl B.eql) rfl (fun h22 => ?_) (fun h22 => ?_)
  ·
   refine RL.val (Wanted.free rfl) (V.move rfl rfl) rfl ?_
   refine RL.val (Wanted.yes rfl rfl rfl rfl) (V.fieldAddr rfl rfl fo26_3) rfl ?_
   refine RL.val (Wanted.yes rfl rfl rfl rfl) (V.load rfl on3 rfl pickX rfl) rfl ?_
   refine RL.cmp (Wanted.yes rfl rfl rfl rfl) (V.bin rfl rfl rfl B.eql) rfl (fun h26 => ?_) (fun h26 => ?_)
   ·
    refine RL.val (Wanted.yes rfl rfl rfl rfl) (V.move rfl rfl) rfl ?_
    refine RL.skip (Wanted.no rfl rfl rfl rfl rfl) rfl ?_
    refine RL.skip (Wanted.no rfl rfl rfl rfl rfl) rfl ?_
    refine RL.skip (Wanted.no rfl rfl rfl rfl rfl) rfl ?_
    refine RL.skip (Wanted.no rfl rfl rfl rfl rfl) rfl ?_
    refine RL.skip (Wanted.no rfl rfl rfl rfl rfl) rfl ?_
    refine RL.val (Wanted.yes rfl rfl rfl rfl) (V.pick_true rfl rfl rfl) rfl ?_
    refine RL.val (Wanted.free rfl) (V.pick_true rfl rfl rfl) rfl ?_
    refine RL.val (Wanted.free rfl) (V.move rfl rfl) rfl ?_
    refine RL.val (Wanted.yes rfl rfl rfl rfl) (V.move rfl rfl) rfl ?_
    refine RL.val (Wanted.free rfl) (V.pick_true rfl rfl rfl) rfl ?_
    refine RL.val (Wanted.free rfl) (V.assign rfl rfl) rfl ?_
    refine RL.nil ?_
    refine SG.seq ?_
    refine SG.seq ?_
    refine SG.region ?_
    refine RL.val (Wanted.free rfl) (V.move rfl rfl) rfl ?_
    refine RL.nil ?_
    refine SG.cond_true rfl ?_
    refine SG.region ?_
    refine RL.val (Wanted.free rfl) (V.fieldAddr rfl rfl fo50_1) rfl ?_
    refine RL.val (Wanted.free rfl) (V.load rfl on3 rfl pickX rfl) rfl ?_
    refine RL.val (Wanted.free rfl) (V.fieldAddr rfl rfl fo26_3) rfl ?_
    refine RL.eff (Wanted.free rfl) (E.store1 rfl rfl rfl rfl rfl sz3 pickX rfl) rfl ?_
    rintro _ _ rfl
    refine RL.nil ?_
    refine SG.seq ?_
    have hg : grants p m := by unfold grants recent; omega
    have hvp : voteP p m = { p with voted := m.frm } := if_pos hg
    have hvm : voteM p m = ⟨2, p.id, m.frm, p.term, 0, 0, 0, [], true⟩ := by rw [voteM, decide_eq_true hg]
    rw [hvp, hvm]
    refine SG.ent (Sl.nil (T := RSlot)) ?_
    refine SG.ent (RMsg.mk (m := ⟨2, p.id, m.frm, p.term, 0, 0, 0, [], true⟩) (a := none) (n' := 0) (c := 0) memX) ?_
    refine SG.ent (RPeer.mk (p := { p with voted := m.frm }) (la := ka) (ln := p.log.length) (lc := kc) (va := wa) (vn := wn) (vc := wc) (ma := xa) (mn := xn) (mc := xc) memX memX memX) ?_
    refine SG.drawN 12 12 (Blk b2 26 (pv ({ p with voted := m.frm }) (.slice ka p.log.length kc) (.slice wa wn wc) (.slice xa xn xc)) :: Blk b3 50 (mv m (.slice sa sn sc)) :: Rd RPeer (pv ({ p with voted := m.frm }) (.slice ka p.log.length kc) (.slice wa wn wc) (.slice xa xn xc)) ({ p with voted := m.frm }) :: Rd RMsg (mv ⟨2, p.id, m.frm, p.term, 0, 0, 0, [], true⟩ (.slice none 0 0)) ⟨2, p.id, m.frm, p.term, 0, 0, 0, [], true⟩ :: L) wide rfl rfl (by repeat (first | exact Ent.refl _ | (apply Ent.cons; (· repeat (first | exact Pick.here | (refine Pick.sl ?_; (· repeat (first | exact List.Mem.head _ | assumption | apply List.Mem.tail))) | apply Pick.there))) | (refine Ent.trans (Ent.drop _ _) ?_))) ?_
    refine RH.val 0 rfl krX krX krX krX (Wanted.free rfl) (V.loadAgg (us := pv ({ p with voted := m.frm }) (.slice ka p.log.length kc) (.slice wa wn wc) (.slice xa xn xc)) rfl ag26 rfl pickX rfl rfl) rfl ?_
    refine RH.val 1 rfl krX krX krX krX (Wanted.free rfl) (V.fieldAddr rfl rfl fo26_0) rfl ?_
    refine RH.val 2 rfl krX krX krX krX (Wanted.free rfl) (V.load rfl on3 rfl pickX rfl) rfl ?_
    refine RH.val 3 rfl krX krX krX krX (Wanted.free rfl) (V.fieldAddr rfl rfl fo50_1) rfl ?_
    refine RH.val 4 rfl krX krX krX krX (Wanted.free rfl) (V.load rfl on3 rfl pickX rfl) rfl ?_
    refine RH.val 5 rfl krX krX krX krX (Wanted.free rfl) (V.fieldAddr rfl rfl fo26_2) rfl ?_
    refine RH.val 6 rfl krX krX krX krX (Wanted.free rfl) (V.load rfl on3 rfl pickX rfl) rfl ?_
    refine RH.val 7 rfl krX krX krX krX (Wanted.free rfl) (V.move rfl rfl) rfl ?_
    refine RH.val 8 rfl krX krX krX krX (Wanted.free rfl) (V.buildS [(0, _), (1, _), (2, _), (3, _), (8, _)] rfl bs50 (by exact ⟨rfl, ⟨_, rfl, rfl⟩, ⟨rfl, ⟨_, rfl, rfl⟩, ⟨rfl, ⟨_, rfl, rfl⟩, ⟨rfl, ⟨_, rfl, rfl⟩, ⟨rfl, ⟨_, rfl, rfl⟩, trivial⟩⟩⟩⟩⟩) rfl) rfl ?_
    refine RH.two (i := 9) (j := 10) krX ?_ ?_
    ·
     refine RHone.eff rfl (Wanted.free rfl) (E.lit1 (mv ⟨2, p.id, m.frm, p.term, 0, 0, 0, [], true⟩ (.slice none 0 0)) rfl el35.slice ze50 rfl (by decide) (by decide) rfl rfl rfl) rfl ?_
     rintro _ _ ⟨b66, rfl, rfl⟩
     refine ⟨.inr entX, ?_⟩
     refine RH.one (i := 10) krX ?_
     refine RHone.eff rfl (Wanted.free rfl) (E.storeWhole rfl rfl rfl (by rfl) sz26 pickX pv_one (by rfl)) rfl ?_
     rintro _ _ rfl
     refine ⟨.inr entX, ?_⟩
     refine RH.val 11 rfl krX krX krX krX (Wanted.free rfl) (V.assign rfl rfl) rfl ?_
     refine RH.done krX ?_
     refine SG.ent (Buf.of_els (T := RMsg) (b := b66) (e := 50) (m := 1) (l := [_]) pickX rfl rfl (by decide) (fun z h H => Rep.rows.single (Rd.rep (T := RMsg) memX z h H))) ?_
     refine SG.publish (T := RMsg) (a := some ⟨b66, 0, none⟩) pickX ?_
     refine SG.retE (Ret.r2 Try.func75 rfl (.agg rfl ag26 pickX rfl rfl) (.tmp rfl)) ?_ ⟨_, _, _, rfl, rfl⟩
     exact entX
    ·
     refine RHone.eff rfl (Wanted.free rfl) (E.storeWhole rfl rfl rfl (by rfl) sz26 pickX pv_one (by rfl)) rfl ?_
     rintro _ _ rfl
     refine ⟨.inr entX, ?_⟩
     refine RH.one (i := 9) krX ?_
     refine RHone.eff rfl (Wanted.free rfl) (E.lit1 (mv ⟨2, p.id, m.frm, p.term, 0, 0, 0, [], true⟩ (.slice none 0 0)) rfl el35.slice ze50 rfl (by decide) (by decide) rfl rfl rfl) rfl ?_
     rintro _ _ ⟨b66, rfl, rfl⟩
     refine ⟨.inr entX, ?_⟩
     refine RH.val 11 rfl krX krX krX krX (Wanted.free rfl) (V.assign rfl rfl) rfl ?_
     refine RH.done krX ?_
     refine SG.ent (Buf.of_els (T := RMsg) (b := b66) (e := 50) (m := 1) (l := [_]) pickX rfl rfl (by decide) (fun z h H => Rep.rows.single (Rd.rep (T := RMsg) memX z h H))) ?_
     refine SG.publish (T := RMsg) (a := some ⟨b66, 0, none⟩) pickX ?_
     refine SG.retE (Ret.r2 Try.func75 rfl (.agg rfl ag26 pickX rfl rfl) (.tmp rfl)) ?_ ⟨_, _, _, rfl, rfl⟩
     exact entX
   ·
    refine RL.val (Wanted.yes rfl rfl rfl rfl) (V.move rfl rfl) rfl ?_
    refine RL.val (Wanted.yes rfl rfl rfl rfl) (V.fieldAddr rfl rfl fo26_3) rfl ?_
    refine RL.val (Wanted.yes rfl rfl rfl rfl) (V.load rfl on3 rfl pickX rfl) rfl ?_
    refine RL.val (Wanted.yes rfl rfl rfl rfl) (V.fieldAddr rfl rfl fo50_1) rfl ?_
    refine RL.val (Wanted.yes rfl rfl rfl rfl) (V.load rfl on3 rfl pickX rfl) rfl ?_
    refine RL.cmp (Wanted.yes rfl rfl rfl rfl) (V.bin rfl rfl rfl B.eql) rfl (fun h56 => ?_) (fun h56 => ?_)
    ·
     refine RL.val (Wanted.yes rfl rfl rfl rfl) (V.pick_false rfl rfl rfl) rfl ?_
     refine RL.val (Wanted.free rfl) (V.pick_true rfl rfl rfl) rfl ?_
     refine RL.val (Wanted.free rfl) (V.move rfl rfl) rfl ?_
     refine RL.val (Wanted.yes rfl rfl rfl rfl) (V.move rfl rfl) rfl ?_
     refine RL.val (Wanted.free rfl) (V.pick_true rfl rfl rfl) rfl ?_
     refine RL.val (Wanted.free rfl) (V.assign rfl rfl) rfl ?_
     refine RL.nil ?_
     refine SG.seq ?_
     refine SG.seq ?_
     refine SG.region ?_
     refine RL.val (Wanted.free rfl) (V.move rfl rfl) rfl ?_
     refine RL.nil ?_
     refine SG.cond_true rfl ?_
     refine SG.region ?_
     refine RL.val (Wanted.free rfl) (V.fieldAddr rfl rfl fo50_1) rfl ?_
     refine RL.val (Wanted.free rfl) (V.load rfl on3 rfl pickX rfl) rfl ?_
     refine RL.val (Wanted.free rfl) (V.fieldAddr rfl rfl fo26_3) rfl ?_
     refine RL.eff (Wanted.free rfl) (E.store1 rfl rfl rfl rfl rfl sz3 pickX rfl) rfl ?_
     rintro _ _ rfl
     refine RL.nil ?_
     refine SG.seq ?_
     have hg : grants p m := by unfold grants recent; omega
     have hvp : voteP p m = { p with voted := m.frm } := if_pos hg
     have hvm : voteM p m = ⟨2, p.id, m.frm, p.term, 0, 0, 0, [], true⟩ := by rw [voteM, decide_eq_true hg]
     rw [hvp, hvm]
     refine SG.ent (Sl.nil (T := RSlot)) ?_
     refine SG.ent (RMsg.mk (m := ⟨2, p.id, m.frm, p.term, 0, 0, 0, [], true⟩) (a := none) (n' := 0) (c := 0) memX) ?_
     refine SG.ent (RPeer.mk (p := { p with voted := m.frm }) (la := ka) (ln := p.log.length) (lc := kc) (va := wa) (vn := wn) (vc := wc) (ma := xa) (mn := xn) (mc := xc) memX memX memX) ?_
     refine SG.drawN 12 12 (Blk b2 26 (pv ({ p with voted := m.frm }) (.slice ka p.log.length kc) (.slice wa wn wc) (.slice xa xn xc)) :: Blk b3 50 (mv m (.slice sa sn sc)) :: Rd RPeer (pv ({ p with voted := m.frm }) (.slice ka p.log.length kc) (.slice wa wn wc) (.slice xa xn xc)) ({ p with voted := m.frm }) :: Rd RMsg (mv ⟨2, p.id, m.frm, p.term, 0, 0, 0, [], true⟩ (.slice none 0 0)) ⟨2, p.id, m.frm, p.term, 0, 0, 0, [], true⟩ :: L) wide rfl rfl (by repeat (first | exact Ent.refl _ | (apply Ent.cons; (· repeat (first | exact Pick.here | (refine Pick.sl ?_; (· repeat (first | exact List.Mem.head _ | assumption | apply List.Mem.tail))) | apply Pick.there))) | (refine Ent.trans (Ent.drop _ _) ?_))) ?_
     refine RH.val 0 rfl krX krX krX krX (Wanted.free rfl) (V.loadAgg (us := pv ({ p with voted := m.frm }) (.slice ka p.log.length kc) (.slice wa wn wc) (.slice xa xn xc)) rfl ag26 rfl pickX rfl rfl) rfl ?_
     refine RH.val 1 rfl krX krX krX krX (Wanted.free rfl) (V.fieldAddr rfl rfl fo26_0) rfl ?_
     refine RH.val 2 rfl krX krX krX krX (Wanted.free rfl) (V.load rfl on3 rfl pickX rfl) rfl ?_
     refine RH.val 3 rfl krX krX krX krX (Wanted.free rfl) (V.fieldAddr rfl rfl fo50_1) rfl ?_
     refine RH.val 4 rfl krX krX krX krX (Wanted.free rfl) (V.load rfl on3 rfl pickX rfl) rfl ?_
     refine RH.val 5 rfl krX krX krX krX (Wanted.free rfl) (V.fieldAddr rfl rfl fo26_2) rfl ?_
     refine RH.val 6 rfl krX krX krX krX (Wanted.free rfl) (V.load rfl on3 rfl pickX rfl) rfl ?_
     refine RH.val 7 rfl krX krX krX krX (Wanted.free rfl) (V.move rfl rfl) rfl ?_
     refine RH.val 8 rfl krX krX krX krX (Wanted.free rfl) (V.buildS [(0, _), (1, _), (2, _), (3, _), (8, _)] rfl bs50 (by exact ⟨rfl, ⟨_, rfl, rfl⟩, ⟨rfl, ⟨_, rfl, rfl⟩, ⟨rfl, ⟨_, rfl, rfl⟩, ⟨rfl, ⟨_, rfl, rfl⟩, ⟨rfl, ⟨_, rfl, rfl⟩, trivial⟩⟩⟩⟩⟩) rfl) rfl ?_
     refine RH.two (i := 9) (j := 10) krX ?_ ?_
     ·
      refine RHone.eff rfl (Wanted.free rfl) (E.lit1 (mv ⟨2, p.id, m.frm, p.term, 0, 0, 0, [], true⟩ (.slice none 0 0)) rfl el35.slice ze50 rfl (by decide) (by decide) rfl rfl rfl) rfl ?_
      rintro _ _ ⟨b66, rfl, rfl⟩
      refine ⟨.inr entX, ?_⟩
      refine RH.one (i := 10) krX ?_
      refine RHone.eff rfl (Wanted.free rfl) (E.storeWhole rfl rfl rfl (by rfl) sz26 pickX pv_one (by rfl)) rfl ?_
      rintro _ _ rfl
      refine ⟨.inr entX, ?_⟩
      refine RH.val 11 rfl krX krX krX krX (Wanted.free rfl) (V.assign rfl rfl) rfl ?_
      refine RH.done krX ?_
      refine SG.ent (Buf.of_els (T := RMsg) (b := b66) (e := 50) (m := 1) (l := [_]) pickX rfl rfl (by decide) (fun z h H => Rep.rows.single (Rd.rep (T := RMsg) memX z h H))) ?_
      refine SG.publish (T := RMsg) (a := some ⟨b66, 0, none⟩) pickX ?_
      refine SG.retE (Ret.r2 Try.func75 rfl (.agg rfl ag26 pickX rfl rfl) (.tmp rfl)) ?_ ⟨_, _, _, rfl, rfl⟩
      exact entX
     ·
      refine RHone.eff rfl (Wanted.free rfl) (E.storeWhole rfl rfl rfl (by rfl) sz26 pickX pv_one (by rfl)) rfl ?_
      rintro _ _ rfl
      refine ⟨.inr entX, ?_⟩
      refine RH.one (i := 9) krX ?_
      refine RHone.eff rfl (Wanted.free rfl) (E.lit1 (mv ⟨2, p.id, m.frm, p.term, 0, 0, 0, [], true⟩ (.slice none 0 0)) rfl el35.slice ze50 rfl (by decide) (by decide) rfl rfl rfl) rfl ?_
      rintro _ _ ⟨b66, rfl, rfl⟩
      refine ⟨.inr entX, ?_⟩
      refine RH.val 11 rfl krX krX krX krX (Wanted.free rfl) (V.assign rfl rfl) rfl ?_
      refine RH.done krX ?_
      refine SG.ent (Buf.of_els (T := RMsg) (b := b66) (e := 50) (m := 1) (l := [_]) pickX rfl rfl (by decide) (fun z h H => Rep.rows.single (Rd.rep (T := RMsg) memX z h H))) ?_
      refine SG.publish (T := RMsg) (a := some ⟨b66, 0, none⟩) pickX ?_
      refine SG.retE (Ret.r2 Try.func75 rfl (.agg rfl ag26 pickX rfl rfl) (.tmp rfl)) ?_ ⟨_, _, _, rfl, rfl⟩
      exact entX
    ·
     refine RL.val (Wanted.yes rfl rfl rfl rfl) (V.pick_false rfl rfl rfl) rfl ?_
     refine RL.val (Wanted.free rfl) (V.pick_true rfl rfl rfl) rfl ?_
     refine RL.val (Wanted.free rfl) (V.move rfl rfl) rfl ?_
     refine RL.skip (Wanted.no rfl rfl rfl rfl rfl) rfl ?_
     refine RL.val (Wanted.free rfl) (V.pick_false rfl rfl rfl) rfl ?_
     refine RL.val (Wanted.free rfl) (V.assign rfl rfl) rfl ?_
     refine RL.nil ?_
     refine SG.seq ?_
     refine SG.seq ?_
     refine SG.region ?_
     refine RL.val (Wanted.free rfl) (V.move rfl rfl) rfl ?_
     refine RL.nil ?_
     refine SG.cond_false rfl ?_
     refine SG.skip ?_
     refine SG.seq ?_
     have hg : ¬ grants p m := by unfold grants recent; omega
     have hvp : voteP p m = p := if_neg hg
     have hvm : voteM p m = ⟨2, p.id, m.frm, p.term, 0, 0, 0, [], false⟩ := by rw [voteM, decide_eq_false hg]
     rw [hvp, hvm]
     refine SG.ent (Sl.nil (T := RSlot)) ?_
     refine SG.ent (RMsg.mk (m := ⟨2, p.id, m.frm, p.term, 0, 0, 0, [], false⟩) (a := none) (n' := 0) (c := 0) memX) ?_
     refine SG.ent (RPeer.mk (p := p) (la := ka) (ln := p.log.length) (lc := kc) (va := wa) (vn := wn) (vc := wc) (ma := xa) (mn := xn) (mc := xc) memX memX memX) ?_
     refine SG.drawN 12 12 (Blk b2 26 (pv (p) (.slice ka p.log.length kc) (.slice wa wn wc) (.slice xa xn xc)) :: Blk b3 50 (mv m (.slice sa sn sc)) :: Rd RPeer (pv (p) (.slice ka p.log.length kc) (.slice wa wn wc) (.slice xa xn xc)) (p) :: Rd RMsg (mv ⟨2, p.id, m.frm, p.term, 0, 0, 0, [], false⟩ (.slice none 0 0)) ⟨2, p.id, m.frm, p.term, 0, 0, 0, [], false⟩ :: L) wide rfl rfl (by repeat (first | exact Ent.refl _ | (apply Ent.cons; (· repeat (first | exact Pick.here | (refine Pick.sl ?_; (· repeat (first | exact List.Mem.head _ | assumption | apply List.Mem.tail))) | apply Pick.there))) | (refine Ent.trans (Ent.drop _ _) ?_))) ?_
     refine RH.val 0 rfl krX krX krX krX (Wanted.free rfl) (V.loadAgg (us := pv (p) (.slice ka p.log.length kc) (.slice wa wn wc) (.slice xa xn xc)) rfl ag26 rfl pickX rfl rfl) rfl ?_
     refine RH.val 1 rfl krX krX krX krX (Wanted.free rfl) (V.fieldAddr rfl rfl fo26_0) rfl ?_
     refine RH.val 2 rfl krX krX krX krX (Wanted.free rfl) (V.load rfl on3 rfl pickX rfl) rfl ?_
     refine RH.val 3 rfl krX krX krX krX (Wanted.free rfl) (V.fieldAddr rfl rfl fo50_1) rfl ?_
     refine RH.val 4 rfl krX krX krX krX (Wanted.free rfl) (V.load rfl on3 rfl pickX rfl) rfl ?_
     refine RH.val 5 rfl krX krX krX krX (Wanted.free rfl) (V.fieldAddr rfl rfl fo26_2) rfl ?_
     refine RH.val 6 rfl krX krX krX krX (Wanted.free rfl) (V.load rfl on3 rfl pickX rfl) rfl ?_
     refine RH.val 7 rfl krX krX krX krX (Wanted.free rfl) (V.move rfl rfl) rfl ?_
     refine RH.val 8 rfl krX krX krX krX (Wanted.free rfl) (V.buildS [(0, _), (1, _), (2, _), (3, _), (8, _)] rfl bs50 (by exact ⟨rfl, ⟨_, rfl, rfl⟩, ⟨rfl, ⟨_, rfl, rfl⟩, ⟨rfl, ⟨_, rfl, rfl⟩, ⟨rfl, ⟨_, rfl, rfl⟩, ⟨rfl, ⟨_, rfl, rfl⟩, trivial⟩⟩⟩⟩⟩) rfl) rfl ?_
     refine RH.two (i := 9) (j := 10) krX ?_ ?_
     ·
      refine RHone.eff rfl (Wanted.free rfl) (E.lit1 (mv ⟨2, p.id, m.frm, p.term, 0, 0, 0, [], false⟩ (.slice none 0 0)) rfl el35.slice ze50 rfl (by decide) (by decide) rfl rfl rfl) rfl ?_
      rintro _ _ ⟨b66, rfl, rfl⟩
      refine ⟨.inr entX, ?_⟩
      refine RH.one (i := 10) krX ?_
      refine RHone.eff rfl (Wanted.free rfl) (E.storeWhole rfl rfl rfl (by rfl) sz26 pickX pv_one (by rfl)) rfl ?_
      rintro _ _ rfl
      refine ⟨.inr entX, ?_⟩
      refine RH.val 11 rfl krX krX krX krX (Wanted.free rfl) (V.assign rfl rfl) rfl ?_
      refine RH.done krX ?_
      refine SG.ent (Buf.of_els (T := RMsg) (b := b66) (e := 50) (m := 1) (l := [_]) pickX rfl rfl (by decide) (fun z h H => Rep.rows.single (Rd.rep (T := RMsg) memX z h H))) ?_
      refine SG.publish (T := RMsg) (a := some ⟨b66, 0, none⟩) pickX ?_
      refine SG.retE (Ret.r2 Try.func75 rfl (.agg rfl ag26 pickX rfl rfl) (.tmp rfl)) ?_ ⟨_, _, _, rfl, rfl⟩
      exact entX
     ·
      refine RHone.eff rfl (Wanted.free rfl) (E.storeWhole rfl rfl rfl (by rfl) sz26 pickX pv_one (by rfl)) rfl ?_
      rintro _ _ rfl
      refine ⟨.inr entX, ?_⟩
      refine RH.one (i := 9) krX ?_
      refine RHone.eff rfl (Wanted.free rfl) (E.lit1 (mv ⟨2, p.id, m.frm, p.term, 0, 0, 0, [], false⟩ (.slice none 0 0)) rfl el35.slice ze50 rfl (by decide) (by decide) rfl rfl rfl) rfl ?_
      rintro _ _ ⟨b66, rfl, rfl⟩
      refine ⟨.inr entX, ?_⟩
      refine RH.val 11 rfl krX krX krX krX (Wanted.free rfl) (V.assign rfl rfl) rfl ?_
      refine RH.done krX ?_
      refine SG.ent (Buf.of_els (T := RMsg) (b := b66) (e := 50) (m := 1) (l := [_]) pickX rfl rfl (by decide) (fun z h H => Rep.rows.single (Rd.rep (T := RMsg) memX z h H))) ?_
      refine SG.publish (T := RMsg) (a := some ⟨b66, 0, none⟩) pickX ?_
      refine SG.retE (Ret.r2 Try.func75 rfl (.agg rfl ag26 pickX rfl rfl) (.tmp rfl)) ?_ ⟨_, _, _, rfl, rfl⟩
      exact entX
  ·
   refine RL.val (Wanted.free rfl) (V.move rfl rfl) rfl ?_
   refine RL.skip (Wanted.no rfl rfl rfl rfl rfl) rfl ?_
   refine RL.skip (Wanted.no rfl rfl rfl rfl rfl) rfl ?_
   refine RL.skip (Wanted.no rfl rfl rfl rfl rfl) rfl ?_
   refine RL.skip (Wanted.no rfl rfl rfl rfl rfl) rfl ?_
   refine RL.skip (Wanted.un rfl rfl rfl) rfl ?_
   refine RL.skip (Wanted.un rfl rfl rfl) rfl ?_
   refine RL.skip (Wanted.un rfl rfl rfl) rfl ?_
   refine RL.skip (Wanted.un rfl rfl rfl) rfl ?_
   refine RL.skip (Wanted.un rfl rfl rfl) rfl ?_
   refine RL.skip (Wanted.no rfl rfl rfl rfl rfl) rfl ?_
   refine RL.val (Wanted.free rfl) (V.pick_false rfl rfl rfl) rfl ?_
   refine RL.val (Wanted.free rfl) (V.move rfl rfl) rfl ?_
   refine RL.skip (Wanted.no rfl rfl rfl rfl rfl) rfl ?_
   refine RL.val (Wanted.free rfl) (V.pick_false rfl rfl rfl) rfl ?_
   refine RL.val (Wanted.free rfl) (V.assign rfl rfl) rfl ?_
   refine RL.nil ?_
   refine SG.seq ?_
   refine SG.seq ?_
   refine SG.region ?_
   refine RL.val (Wanted.free rfl) (V.move rfl rfl) rfl ?_
   refine RL.nil ?_
   refine SG.cond_false rfl ?_
   refine SG.skip ?_
   refine SG.seq ?_
   have hg : ¬ grants p m := by unfold grants recent; omega
   have hvp : voteP p m = p := if_neg hg
   have hvm : voteM p m = ⟨2, p.id, m.frm, p.term, 0, 0, 0, [], false⟩ := by rw [voteM, decide_eq_false hg]
   rw [hvp, hvm]
   refine SG.ent (Sl.nil (T := RSlot)) ?_
   refine SG.ent (RMsg.mk (m := ⟨2, p.id, m.frm, p.term, 0, 0, 0, [], false⟩) (a := none) (n' := 0) (c := 0) memX) ?_
   refine SG.ent (RPeer.mk (p := p) (la := ka) (ln := p.log.length) (lc := kc) (va := wa) (vn := wn) (vc := wc) (ma := xa) (mn := xn) (mc := xc) memX memX memX) ?_
   refine SG.drawN 12 12 (Blk b2 26 (pv (p) (.slice ka p.log.length kc) (.slice wa wn wc) (.slice xa xn xc)) :: Blk b3 50 (mv m (.slice sa sn sc)) :: Rd RPeer (pv (p) (.slice ka p.log.length kc) (.slice wa wn wc) (.slice xa xn xc)) (p) :: Rd RMsg (mv ⟨2, p.id, m.frm, p.term, 0, 0, 0, [], false⟩ (.slice none 0 0)) ⟨2, p.id, m.frm, p.term, 0, 0, 0, [], false⟩ :: L) wide rfl rfl (by repeat (first | exact Ent.refl _ | (apply Ent.cons; (· repeat (first | exact Pick.here | (refine Pick.sl ?_; (· repeat (first | exact List.Mem.head _ | assumption | apply List.Mem.tail))) | apply Pick.there))) | (refine Ent.trans (Ent.drop _ _) ?_))) ?_
   refine RH.val 0 rfl krX krX krX krX (Wanted.free rfl) (V.loadAgg (us := pv (p) (.slice ka p.log.length kc) (.slice wa wn wc) (.slice xa xn xc)) rfl ag26 rfl pickX rfl rfl) rfl ?_
   refine RH.val 1 rfl krX krX krX krX (Wanted.free rfl) (V.fieldAddr rfl rfl fo26_0) rfl ?_
   refine RH.val 2 rfl krX krX krX krX (Wanted.free rfl) (V.load rfl on3 rfl pickX rfl) rfl ?_
   refine RH.val 3 rfl krX krX krX krX (Wanted.free rfl) (V.fieldAddr rfl rfl fo50_1) rfl ?_
   refine RH.val 4 rfl krX krX krX krX (Wanted.free rfl) (V.load rfl on3 rfl pickX rfl) rfl ?_
   refine RH.val 5 rfl krX krX krX krX (Wanted.free rfl) (V.fieldAddr rfl rfl fo26_2) rfl ?_
   refine RH.val 6 rfl krX krX krX krX (Wanted.free rfl) (V.load rfl on3 rfl pickX rfl) rfl ?_
   refine RH.val 7 rfl krX krX krX krX (Wanted.free rfl) (V.move rfl rfl) rfl ?_
   refine RH.val 8 rfl krX krX krX krX (Wanted.free rfl) (V.buildS [(0, _), (1, _), (2, _), (3, _), (8, _)] rfl bs50 (by exact ⟨rfl, ⟨_, rfl, rfl⟩, ⟨rfl, ⟨_, rfl, rfl⟩, ⟨rfl, ⟨_, rfl, rfl⟩, ⟨rfl, ⟨_, rfl, rfl⟩, ⟨rfl, ⟨_, rfl, rfl⟩, trivial⟩⟩⟩⟩⟩) rfl) rfl ?_
   refine RH.two (i := 9) (j := 10) krX ?_ ?_
   ·
    refine RHone.eff rfl (Wanted.free rfl) (E.lit1 (mv ⟨2, p.id, m.frm, p.term, 0, 0, 0, [], false⟩ (.slice none 0 0)) rfl el35.slice ze50 rfl (by decide) (by decide) rfl rfl rfl) rfl ?_
    rintro _ _ ⟨b66, rfl, rfl⟩
    refine ⟨.inr entX, ?_⟩
    refine RH.one (i := 10) krX ?_
    refine RHone.eff rfl (Wanted.free rfl) (E.storeWhole rfl rfl rfl (by rfl) sz26 pickX pv_one (by rfl)) rfl ?_
    rintro _ _ rfl
    refine ⟨.inr entX, ?_⟩
    refine RH.val 11 rfl krX krX krX krX (Wanted.free rfl) (V.assign rfl rfl) rfl ?_
    refine RH.done krX ?_
    refine SG.ent (Buf.of_els (T := RMsg) (b := b66) (e := 50) (m := 1) (l := [_]) pickX rfl rfl (by decide) (fun z h H => Rep.rows.single (Rd.rep (T := RMsg) memX z h H))) ?_
    refine SG.publish (T := RMsg) (a := some ⟨b66, 0, none⟩) pickX ?_
    refine SG.retE (Ret.r2 Try.func75 rfl (.agg rfl ag26 pickX rfl rfl) (.tmp rfl)) ?_ ⟨_, _, _, rfl, rfl⟩
    exact entX
   ·
    refine RHone.eff rfl (Wanted.free rfl) (E.storeWhole rfl rfl rfl (by rfl) sz26 pickX pv_one (by rfl)) rfl ?_
    rintro _ _ rfl
    refine ⟨.inr entX, ?_⟩
    refine RH.one (i := 9) krX ?_
    refine RHone.eff rfl (Wanted.free rfl) (E.lit1 (mv ⟨2, p.id, m.frm, p.term, 0, 0, 0, [], false⟩ (.slice none 0 0)) rfl el35.slice ze50 rfl (by decide) (by decide) rfl rfl rfl) rfl ?_
    rintro _ _ ⟨b66, rfl, rfl⟩
    refine ⟨.inr entX, ?_⟩
    refine RH.val 11 rfl krX krX krX krX (Wanted.free rfl) (V.assign rfl rfl) rfl ?_
    refine RH.done krX ?_
    refine SG.ent (Buf.of_els (T := RMsg) (b := b66) (e := 50) (m := 1) (l := [_]) pickX rfl rfl (by decide) (fun z h H => Rep.rows.single (Rd.rep (T := RMsg) memX z h H))) ?_
    refine SG.publish (T := RMsg) (a := some ⟨b66, 0, none⟩) pickX ?_
    refine SG.retE (Ret.r2 Try.func75 rfl (.agg rfl ag26 pickX rfl rfl) (.tmp rfl)) ?_ ⟨_, _, _, rfl, rfl⟩
    exact entX
 ·
  refine RL.val (Wanted.free rfl) (V.move rfl rfl) rfl ?_
  refine RL.val (Wanted.yes rfl rfl rfl rfl) (V.fieldAddr rfl rfl fo50_5) rfl ?_
  refine RL.val (Wanted.yes rfl rfl rfl rfl) (V.load rfl on3 rfl pickX rfl) rfl ?_
  refine RL.val (Wanted.yes rfl rfl rfl rfl) (V.move rfl rfl) rfl ?_
  refine RL.cmp (Wanted.yes rfl rfl rfl rfl) (V.bin rfl rfl rfl B.eql) rfl (fun h121 => ?_) (fun h121 => ?_)
  ·
   refine RL.val (Wanted.yes rfl rfl rfl rfl) (V.move rfl rfl) rfl ?_
   refine RL.val (Wanted.yes rfl rfl rfl rfl) (V.fieldAddr rfl rfl fo50_4) rfl ?_
   refine RL.val (Wanted.yes rfl rfl rfl rfl) (V.load rfl on3 rfl pickX rfl) rfl ?_
   refine RL.val (Wanted.yes rfl rfl rfl rfl) (V.fieldAddr rfl rfl fo26_6) rfl ?_
   refine RL.val (Wanted.yes rfl rfl rfl rfl) (V.load rfl on23 rfl pickX rfl) rfl ?_
   refine RL.val (Wanted.yes rfl rfl rfl rfl) (V.len rfl rfl el23.under rfl) rfl ?_
   refine RL.cmp (Wanted.yes rfl rfl rfl rfl) (V.bin rfl rfl rfl B.geq) rfl (fun h128 => ?_) (fun h128 => ?_)
   ·
    refine RL.val (Wanted.yes rfl rfl rfl rfl) (V.pick_true rfl rfl rfl) rfl ?_
    refine RL.val (Wanted.free rfl) (V.pick_false rfl rfl rfl) rfl ?_
    refine RL.val (Wanted.free rfl) (V.assign rfl rfl) rfl ?_
    refine RL.nil ?_
    refine SG.seq ?_
    refine SG.region ?_
    refine RL.val (Wanted.free rfl) (V.fieldAddr rfl rfl fo50_3) rfl ?_
    refine RL.val (Wanted.free rfl) (V.load rfl on3 rfl pickX rfl) rfl ?_
    refine RL.val (Wanted.free rfl) (V.fieldAddr rfl rfl fo26_2) rfl ?_
    refine RL.val (Wanted.free rfl) (V.load rfl on3 rfl pickX rfl) rfl ?_
    refine RL.cmp (Wanted.free rfl) (V.bin rfl rfl rfl B.eql) rfl (fun h134 => ?_) (fun h134 => ?_)
    ·
     refine RL.val (Wanted.free rfl) (V.move rfl rfl) rfl ?_
     refine RL.val (Wanted.yes rfl rfl rfl rfl) (V.fieldAddr rfl rfl fo26_3) rfl ?_
     refine RL.val (Wanted.yes rfl rfl rfl rfl) (V.load rfl on3 rfl pickX rfl) rfl ?_
     refine RL.cmp (Wanted.yes rfl rfl rfl rfl) (V.bin rfl rfl rfl B.eql) rfl (fun h138 => ?_) (fun h138 => ?_)
     ·
      refine RL.val (Wanted.yes rfl rfl rfl rfl) (V.move rfl rfl) rfl ?_
      refine RL.skip (Wanted.no rfl rfl rfl rfl rfl) rfl ?_
      refine RL.skip (Wanted.no rfl rfl rfl rfl rfl) rfl ?_
      refine RL.skip (Wanted.no rfl rfl rfl rfl rfl) rfl ?_
      refine RL.skip (Wanted.no rfl rfl rfl rfl rfl) rfl ?_
      refine RL.skip (Wanted.no rfl rfl rfl rfl rfl) rfl ?_
      refine RL.val (Wanted.yes rfl rfl rfl rfl) (V.pick_true rfl rfl rfl) rfl ?_
      refine RL.val (Wanted.free rfl) (V.pick_true rfl rfl rfl) rfl ?_
      refine RL.val (Wanted.free rfl) (V.move rfl rfl) rfl ?_
      refine RL.val (Wanted.yes rfl rfl rfl rfl) (V.move rfl rfl) rfl ?_
      refine RL.val (Wanted.free rfl) (V.pick_true rfl rfl rfl) rfl ?_
      refine RL.val (Wanted.free rfl) (V.assign rfl rfl) rfl ?_
      refine RL.nil ?_
      refine SG.seq ?_
      refine SG.seq ?_
      refine SG.region ?_
      refine RL.val (Wanted.free rfl) (V.move rfl rfl) rfl ?_
      refine RL.nil ?_
      refine SG.cond_true rfl ?_
      refine SG.region ?_
      refine RL.val (Wanted.free rfl) (V.fieldAddr rfl rfl fo50_1) rfl ?_
      refine RL.val (Wanted.free rfl) (V.load rfl on3 rfl pickX rfl) rfl ?_
      refine RL.val (Wanted.free rfl) (V.fieldAddr rfl rfl fo26_3) rfl ?_
      refine RL.eff (Wanted.free rfl) (E.store1 rfl rfl rfl rfl rfl sz3 pickX rfl) rfl ?_
      rintro _ _ rfl
      refine RL.nil ?_
      refine SG.seq ?_
      have hg : grants p m := by unfold grants recent; omega
      have hvp : voteP p m = { p with voted := m.frm } := if_pos hg
      have hvm : voteM p m = ⟨2, p.id, m.frm, p.term, 0, 0, 0, [], true⟩ := by rw [voteM, decide_eq_true hg]
      rw [hvp, hvm]
      refine SG.ent (Sl.nil (T := RSlot)) ?_
      refine SG.ent (RMsg.mk (m := ⟨2, p.id, m.frm, p.term, 0, 0, 0, [], true⟩) (a := none) (n' := 0) (c := 0) memX) ?_
      refine SG.ent (RPeer.mk (p := { p with voted := m.frm }) (la := ka) (ln := p.log.length) (lc := kc) (va := wa) (vn := wn) (vc := wc) (ma := xa) (mn := xn) (mc := xc) memX memX memX) ?_
      refine SG.drawN 12 12 (Blk b2 26 (pv ({ p with voted := m.frm }) (.slice ka p.log.length kc) (.slice wa wn wc) (.slice xa xn xc)) :: Blk b3 50 (mv m (.slice sa sn sc)) :: Rd RPeer (pv ({ p with voted := m.frm }) (.slice ka p.log.length kc) (.slice wa wn wc) (.slice xa xn xc)) ({ p with voted := m.frm }) :: Rd RMsg (mv ⟨2, p.id, m.frm, p.term, 0, 0, 0, [], true⟩ (.slice none 0 0)) ⟨2, p.id, m.frm, p.term, 0, 0, 0, [], true⟩ :: L) wide rfl rfl (by repeat (first | exact Ent.refl _ | (apply Ent.cons; (· repeat (first | exact Pick.here | (refine Pick.sl ?_; (· repeat (first | exact List.Mem.head _ | assumption | apply List.Mem.tail))) | apply Pick.there))) | (refine Ent.trans (Ent.drop _ _) ?_))) ?_
      refine RH.val 0 rfl krX krX krX krX (Wanted.free rfl) (V.loadAgg (us := pv ({ p with voted := m.frm }) (.slice ka p.log.length kc) (.slice wa wn wc) (.slice xa xn xc)) rfl ag26 rfl pickX rfl rfl) rfl ?_
      refine RH.val 1 rfl krX krX krX krX (Wanted.free rfl) (V.fieldAddr rfl rfl fo26_0) rfl ?_
      refine RH.val 2 rfl krX krX krX krX (Wanted.free rfl) (V.load rfl on3 rfl pickX rfl) rfl ?_
      refine RH.val 3 rfl krX krX krX krX (Wanted.free rfl) (V.fieldAddr rfl rfl fo50_1) rfl ?_
      refine RH.val 4 rfl krX krX krX krX (Wanted.free rfl) (V.load rfl on3 rfl pickX rfl) rfl ?_
      refine RH.val 5 rfl krX krX krX krX (Wanted.free rfl) (V.fieldAddr rfl rfl fo26_2) rfl ?_
      refine RH.val 6 rfl krX krX krX krX (Wanted.free rfl) (V.load rfl on3 rfl pickX rfl) rfl ?_
      refine RH.val 7 rfl krX krX krX krX (Wanted.free rfl) (V.move rfl rfl) rfl ?_
      refine RH.val 8 rfl krX krX krX krX (Wanted.free rfl) (V.buildS [(0, _), (1, _), (2, _), (3, _), (8, _)] rfl bs50 (by exact ⟨rfl, ⟨_, rfl, rfl⟩, ⟨rfl, ⟨_, rfl, rfl⟩, ⟨rfl, ⟨_, rfl, rfl⟩, ⟨rfl, ⟨_, rfl, rfl⟩, ⟨rfl, ⟨_, rfl, rfl⟩, trivial⟩⟩⟩⟩⟩) rfl) rfl ?_
      refine RH.two (i := 9) (j := 10) krX ?_ ?_
      ·
       refine RHone.eff rfl (Wanted.free rfl) (E.lit1 (mv ⟨2, p.id, m.frm, p.term, 0, 0, 0, [], true⟩ (.slice none 0 0)) rfl el35.slice ze50 rfl (by decide) (by decide) rfl rfl rfl) rfl ?_
       rintro _ _ ⟨b66, rfl, rfl⟩
       refine ⟨.inr entX, ?_⟩
       refine RH.one (i := 10) krX ?_
       refine RHone.eff rfl (Wanted.free rfl) (E.storeWhole rfl rfl rfl (by rfl) sz26 pickX pv_one (by rfl)) rfl ?_
       rintro _ _ rfl
       refine ⟨.inr entX, ?_⟩
       refine RH.val 11 rfl krX krX krX krX (Wanted.free rfl) (V.assign rfl rfl) rfl ?_
       refine RH.done krX ?_
       refine SG.ent (Buf.of_els (T := RMsg) (b := b66) (e := 50) (m := 1) (l := [_]) pickX rfl rfl (by decide) (fun z h H => Rep.rows.single (Rd.rep (T := RMsg) memX z h H))) ?_
       refine SG.publish (T := RMsg) (a := some ⟨b66, 0, none⟩) pickX ?_
       refine SG.retE (Ret.r2 Try.func75 rfl (.agg rfl ag26 pickX rfl rfl) (.tmp rfl)) ?_ ⟨_, _, _, rfl, rfl⟩
       exact entX
      ·
       refine RHone.eff rfl (Wanted.free rfl) (E.storeWhole rfl rfl rfl (by rfl) sz26 pickX pv_one (by rfl)) rfl ?_
       rintro _ _ rfl
       refine ⟨.inr entX, ?_⟩
       refine RH.one (i := 9) krX ?_
       refine RHone.eff rfl (Wanted.free rfl) (E.lit1 (mv ⟨2, p.id, m.frm, p.term, 0, 0, 0, [], true⟩ (.slice none 0 0)) rfl el35.slice ze50 rfl (by decide) (by decide) rfl rfl rfl) rfl ?_
       rintro _ _ ⟨b66, rfl, rfl⟩
       refine ⟨.inr entX, ?_⟩
       refine RH.val 11 rfl krX krX krX krX (Wanted.free rfl) (V.assign rfl rfl) rfl ?_
       refine RH.done krX ?_
       refine SG.ent (Buf.of_els (T := RMsg) (b := b66) (e := 50) (m := 1) (l := [_]) pickX rfl rfl (by decide) (fun z h H => Rep.rows.single (Rd.rep (T := RMsg) memX z h H))) ?_
       refine SG.publish (T := RMsg) (a := some ⟨b66, 0, none⟩) pickX ?_
       refine SG.retE (Ret.r2 Try.func75 rfl (.agg rfl ag26 pickX rfl rfl) (.tmp rfl)) ?_ ⟨_, _, _, rfl, rfl⟩
       exact entX
     ·
      refine RL.val (Wanted.yes rfl rfl rfl rfl) (V.move rfl rfl) rfl ?_
      refine RL.val (Wanted.yes rfl rfl rfl rfl) (V.fieldAddr rfl rfl fo26_3) rfl ?_
      refine RL.val (Wanted.yes rfl rfl rfl rfl) (V.load rfl on3 rfl pickX rfl) rfl ?_
      refine RL.val (Wanted.yes rfl rfl rfl rfl) (V.fieldAddr rfl rfl fo50_1) rfl ?_
      refine RL.val (Wanted.yes rfl rfl rfl rfl) (V.load rfl on3 rfl pickX rfl) rfl ?_
      refine RL.cmp (Wanted.yes rfl rfl rfl rfl) (V.bin rfl rfl rfl B.eql) rfl (fun h168 => ?_) (fun h168 => ?_)
      ·
       refine RL.val (Wanted.yes rfl rfl rfl rfl) (V.pick_false rfl rfl rfl) rfl ?_
       refine RL.val (Wanted.free rfl) (V.pick_true rfl rfl rfl) rfl ?_
       refine RL.val (Wanted.free rfl) (V.move rfl rfl) rfl ?_
       refine RL.val (Wanted.yes rfl rfl rfl rfl) (V.move rfl rfl) rfl ?_
       refine RL.val (Wanted.free rfl) (V.pick_true rfl rfl rfl) rfl ?_
       refine RL.val (Wanted.free rfl) (V.assign rfl rfl) rfl ?_
       refine RL.nil ?_
       refine SG.seq ?_
       refine SG.seq ?_
       refine SG.region ?_
       refine RL.val (Wanted.free rfl) (V.move rfl rfl) rfl ?_
       refine RL.nil ?_
       refine SG.cond_true rfl ?_
       refine SG.region ?_
       refine RL.val (Wanted.free rfl) (V.fieldAddr rfl rfl fo50_1) rfl ?_
       refine RL.val (Wanted.free rfl) (V.load rfl on3 rfl pickX rfl) rfl ?_
       refine RL.val (Wanted.free rfl) (V.fieldAddr rfl rfl fo26_3) rfl ?_
       refine RL.eff (Wanted.free rfl) (E.store1 rfl rfl rfl rfl rfl sz3 pickX rfl) rfl ?_
       rintro _ _ rfl
       refine RL.nil ?_
       refine SG.seq ?_
       have hg : grants p m := by unfold grants recent; omega
       have hvp : voteP p m = { p with voted := m.frm } := if_pos hg
       have hvm : voteM p m = ⟨2, p.id, m.frm, p.term, 0, 0, 0, [], true⟩ := by rw [voteM, decide_eq_true hg]
       rw [hvp, hvm]
       refine SG.ent (Sl.nil (T := RSlot)) ?_
       refine SG.ent (RMsg.mk (m := ⟨2, p.id, m.frm, p.term, 0, 0, 0, [], true⟩) (a := none) (n' := 0) (c := 0) memX) ?_
       refine SG.ent (RPeer.mk (p := { p with voted := m.frm }) (la := ka) (ln := p.log.length) (lc := kc) (va := wa) (vn := wn) (vc := wc) (ma := xa) (mn := xn) (mc := xc) memX memX memX) ?_
       refine SG.drawN 12 12 (Blk b2 26 (pv ({ p with voted := m.frm }) (.slice ka p.log.length kc) (.slice wa wn wc) (.slice xa xn xc)) :: Blk b3 50 (mv m (.slice sa sn sc)) :: Rd RPeer (pv ({ p with voted := m.frm }) (.slice ka p.log.length kc) (.slice wa wn wc) (.slice xa xn xc)) ({ p with voted := m.frm }) :: Rd RMsg (mv ⟨2, p.id, m.frm, p.term, 0, 0, 0, [], true⟩ (.slice none 0 0)) ⟨2, p.id, m.frm, p.term, 0, 0, 0, [], true⟩ :: L) wide rfl rfl (by repeat (first | exact Ent.refl _ | (apply Ent.cons; (· repeat (first | exact Pick.here | (refine Pick.sl ?_; (· repeat (first | exact List.Mem.head _ | assumption | apply List.Mem.tail))) | apply Pick.there))) | (refine Ent.trans (Ent.drop _ _) ?_))) ?_
       refine RH.val 0 rfl krX krX krX krX (Wanted.free rfl) (V.loadAgg (us := pv ({ p with voted := m.frm }) (.slice ka p.log.length kc) (.slice wa wn wc) (.slice xa xn xc)) rfl ag26 rfl pickX rfl rfl) rfl ?_
       refine RH.val 1 rfl krX krX krX krX (Wanted.free rfl) (V.fieldAddr rfl rfl fo26_0) rfl ?_
       refine RH.val 2 rfl krX krX krX krX (Wanted.free rfl) (V.load rfl on3 rfl pickX rfl) rfl ?_
       refine RH.val 3 rfl krX krX krX krX (Wanted.free rfl) (V.fieldAddr rfl rfl fo50_1) rfl ?_
       refine RH.val 4 rfl krX krX krX krX (Wanted.free rfl) (V.load rfl on3 rfl pickX rfl) rfl ?_
       refine RH.val 5 rfl krX krX krX krX (Wanted.free rfl) (V.fieldAddr rfl rfl fo26_2) rfl ?_
       refine RH.val 6 rfl krX krX krX krX (Wanted.free rfl) (V.load rfl on3 rfl pickX rfl) rfl ?_
       refine RH.val 7 rfl krX krX krX krX (Wanted.free rfl) (V.move rfl rfl) rfl ?_
       refine RH.val 8 rfl krX krX krX krX (Wanted.free rfl) (V.buildS [(0, _), (1, _), (2, _), (3, _), (8, _)] rfl bs50 (by exact ⟨rfl, ⟨_, rfl, rfl⟩, ⟨rfl, ⟨_, rfl, rfl⟩, ⟨rfl, ⟨_, rfl, rfl⟩, ⟨rfl, ⟨_, rfl, rfl⟩, ⟨rfl, ⟨_, rfl, rfl⟩, trivial⟩⟩⟩⟩⟩) rfl) rfl ?_
       refine RH.two (i := 9) (j := 10) krX ?_ ?_
       ·
        refine RHone.eff rfl (Wanted.free rfl) (E.lit1 (mv ⟨2, p.id, m.frm, p.term, 0, 0, 0, [], true⟩ (.slice none 0 0)) rfl el35.slice ze50 rfl (by decide) (by decide) rfl rfl rfl) rfl ?_
        rintro _ _ ⟨b66, rfl, rfl⟩
        refine ⟨.inr entX, ?_⟩
        refine RH.one (i := 10) krX ?_
        refine RHone.eff rfl (Wanted.free rfl) (E.storeWhole rfl rfl rfl (by rfl) sz26 pickX pv_one (by rfl)) rfl ?_
        rintro _ _ rfl
        refine ⟨.inr entX, ?_⟩
        refine RH.val 11 rfl krX krX krX krX (Wanted.free rfl) (V.assign rfl rfl) rfl ?_
        refine RH.done krX ?_
        refine SG.ent (Buf.of_els (T := RMsg) (b := b66) (e := 50) (m := 1) (l := [_]) pickX rfl rfl (by decide) (fun z h H => Rep.rows.single (Rd.rep (T := RMsg) memX z h H))) ?_
        refine SG.publish (T := RMsg) (a := some ⟨b66, 0, none⟩) pickX ?_
        refine SG.retE (Ret.r2 Try.func75 rfl (.agg rfl ag26 pickX rfl rfl) (.tmp rfl)) ?_ ⟨_, _, _, rfl, rfl⟩
        exact entX
       ·
        refine RHone.eff rfl (Wanted.free rfl) (E.storeWhole rfl rfl rfl (by rfl) sz26 pickX pv_one (by rfl)) rfl ?_
        rintro _ _ rfl
        refine ⟨.inr entX, ?_⟩
        refine RH.one (i := 9) krX ?_
        refine RHone.eff rfl (Wanted.free rfl) (E.lit1 (mv ⟨2, p.id, m.frm, p.term, 0, 0, 0, [], true⟩ (.slice none 0 0)) rfl el35.slice ze50 rfl (by decide) (by decide) rfl rfl rfl) rfl ?_
        rintro _ _ ⟨b66, rfl, rfl⟩
        refine ⟨.inr entX, ?_⟩
        refine RH.val 11 rfl krX krX krX krX (Wanted.free rfl) (V.assign rfl rfl) rfl ?_
        refine RH.done krX ?_
        refine SG.ent (Buf.of_els (T := RMsg) (b := b66) (e := 50) (m := 1) (l := [_]) pickX rfl rfl (by decide) (fun z h H => Rep.rows.single (Rd.rep (T := RMsg) memX z h H))) ?_
        refine SG.publish (T := RMsg) (a := some ⟨b66, 0, none⟩) pickX ?_
        refine SG.retE (Ret.r2 Try.func75 rfl (.agg rfl ag26 pickX rfl rfl) (.tmp rfl)) ?_ ⟨_, _, _, rfl, rfl⟩
        exact entX
      ·
       refine RL.val (Wanted.yes rfl rfl rfl rfl) (V.pick_false rfl rfl rfl) rfl ?_
       refine RL.val (Wanted.free rfl) (V.pick_true rfl rfl rfl) rfl ?_
       refine RL.val (Wanted.free rfl) (V.move rfl rfl) rfl ?_
       refine RL.skip (Wanted.no rfl rfl rfl rfl rfl) rfl ?_
       refine RL.val (Wanted.free rfl) (V.pick_false rfl rfl rfl) rfl ?_
       refine RL.val (Wanted.free rfl) (V.assign rfl rfl) rfl ?_
       refine RL.nil ?_
       refine SG.seq ?_
       refine SG.seq ?_
       refine SG.region ?_
       refine RL.val (Wanted.free rfl) (V.move rfl rfl) rfl ?_
       refine RL.nil ?_
       refine SG.cond_false rfl ?_
       refine SG.skip ?_
       refine SG.seq ?_
       have hg : ¬ grants p m := by unfold grants recent; omega
       have hvp : voteP p m = p := if_neg hg
       have hvm : voteM p m = ⟨2, p.id, m.frm, p.term, 0, 0, 0, [], false⟩ := by rw [voteM, decide_eq_false hg]
       rw [hvp, hvm]
       refine SG.ent (Sl.nil (T := RSlot)) ?_
       refine SG.ent (RMsg.mk (m := ⟨2, p.id, m.frm, p.term, 0, 0, 0, [], false⟩) (a := none) (n' := 0) (c := 0) memX) ?_
       refine SG.ent (RPeer.mk (p := p) (la := ka) (ln := p.log.length) (lc := kc) (va := wa) (vn := wn) (vc := wc) (ma := xa) (mn := xn) (mc := xc) memX memX memX) ?_
       refine SG.drawN 12 12 (Blk b2 26 (pv (p) (.slice ka p.log.length kc) (.slice wa wn wc) (.slice xa xn xc)) :: Blk b3 50 (mv m (.slice sa sn sc)) :: Rd RPeer (pv (p) (.slice ka p.log.length kc) (.slice wa wn wc) (.slice xa xn xc)) (p) :: Rd RMsg (mv ⟨2, p.id, m.frm, p.term, 0, 0, 0, [], false⟩ (.slice none 0 0)) ⟨2, p.id, m.frm, p.term, 0, 0, 0, [], false⟩ :: L) wide rfl rfl (by repeat (first | exact Ent.refl _ | (apply Ent.cons; (· repeat (first | exact Pick.here | (refine Pick.sl ?_; (· repeat (first | exact List.Mem.head _ | assumption | apply List.Mem.tail))) | apply Pick.there))) | (refine Ent.trans (Ent.drop _ _) ?_))) ?_
       refine RH.val 0 rfl krX krX krX krX (Wanted.free rfl) (V.loadAgg (us := pv (p) (.slice ka p.log.length kc) (.slice wa wn wc) (.slice xa xn xc)) rfl ag26 rfl pickX rfl rfl) rfl ?_
       refine RH.val 1 rfl krX krX krX krX (Wanted.free rfl) (V.fieldAddr rfl rfl fo26_0) rfl ?_
       refine RH.val 2 rfl krX krX krX krX (Wanted.free rfl) (V.load rfl on3 rfl pickX rfl) rfl ?_
       refine RH.val 3 rfl krX krX krX krX (Wanted.free rfl) (V.fieldAddr rfl rfl fo50_1) rfl ?_
       refine RH.val 4 rfl krX krX krX krX (Wanted.free rfl) (V.load rfl on3 rfl pickX rfl) rfl ?_
       refine RH.val 5 rfl krX krX krX krX (Wanted.free rfl) (V.fieldAddr rfl rfl fo26_2) rfl ?_
       refine RH.val 6 rfl krX krX krX krX (Wanted.free rfl) (V.load rfl on3 rfl pickX rfl) rfl ?_
       refine RH.val 7 rfl krX krX krX krX (Wanted.free rfl) (V.move rfl rfl) rfl ?_
       refine RH.val 8 rfl krX krX krX krX (Wanted.free rfl) (V.buildS [(0, _), (1, _), (2, _), (3, _), (8, _)] rfl bs50 (by exact ⟨rfl, ⟨_, rfl, rfl⟩, ⟨rfl, ⟨_, rfl, rfl⟩, ⟨rfl, ⟨_, rfl, rfl⟩, ⟨rfl, ⟨_, rfl, rfl⟩, ⟨rfl, ⟨_, rfl, rfl⟩, trivial⟩⟩⟩⟩⟩) rfl) rfl ?_
       refine RH.two (i := 9) (j := 10) krX ?_ ?_
       ·
        refine RHone.eff rfl (Wanted.free rfl) (E.lit1 (mv ⟨2, p.id, m.frm, p.term, 0, 0, 0, [], false⟩ (.slice none 0 0)) rfl el35.slice ze50 rfl (by decide) (by decide) rfl rfl rfl) rfl ?_
        rintro _ _ ⟨b66, rfl, rfl⟩
        refine ⟨.inr entX, ?_⟩
        refine RH.one (i := 10) krX ?_
        refine RHone.eff rfl (Wanted.free rfl) (E.storeWhole rfl rfl rfl (by rfl) sz26 pickX pv_one (by rfl)) rfl ?_
        rintro _ _ rfl
        refine ⟨.inr entX, ?_⟩
        refine RH.val 11 rfl krX krX krX krX (Wanted.free rfl) (V.assign rfl rfl) rfl ?_
        refine RH.done krX ?_
        refine SG.ent (Buf.of_els (T := RMsg) (b := b66) (e := 50) (m := 1) (l := [_]) pickX rfl rfl (by decide) (fun z h H => Rep.rows.single (Rd.rep (T := RMsg) memX z h H))) ?_
        refine SG.publish (T := RMsg) (a := some ⟨b66, 0, none⟩) pickX ?_
        refine SG.retE (Ret.r2 Try.func75 rfl (.agg rfl ag26 pickX rfl rfl) (.tmp rfl)) ?_ ⟨_, _, _, rfl, rfl⟩
        exact entX
       ·
        refine RHone.eff rfl (Wanted.free rfl) (E.storeWhole rfl rfl rfl (by rfl) sz26 pickX pv_one (by rfl)) rfl ?_
        rintro _ _ rfl
        refine ⟨.inr entX, ?_⟩
        refine RH.one (i := 9) krX ?_
        refine RHone.eff rfl (Wanted.free rfl) (E.lit1 (mv ⟨2, p.id, m.frm, p.term, 0, 0, 0, [], false⟩ (.slice none 0 0)) rfl el35.slice ze50 rfl (by decide) (by decide) rfl rfl rfl) rfl ?_
        rintro _ _ ⟨b66, rfl, rfl⟩
        refine ⟨.inr entX, ?_⟩
        refine RH.val 11 rfl krX krX krX krX (Wanted.free rfl) (V.assign rfl rfl) rfl ?_
        refine RH.done krX ?_
        refine SG.ent (Buf.of_els (T := RMsg) (b := b66) (e := 50) (m := 1) (l := [_]) pickX rfl rfl (by decide) (fun z h H => Rep.rows.single (Rd.rep (T := RMsg) memX z h H))) ?_
        refine SG.publish (T := RMsg) (a := some ⟨b66, 0, none⟩) pickX ?_
        refine SG.retE (Ret.r2 Try.func75 rfl (.agg rfl ag26 pickX rfl rfl) (.tmp rfl)) ?_ ⟨_, _, _, rfl, rfl⟩
        exact entX
    ·
     refine RL.val (Wanted.free rfl) (V.move rfl rfl) rfl ?_
     refine RL.skip (Wanted.no rfl rfl rfl rfl rfl) rfl ?_
     refine RL.skip (Wanted.no rfl rfl rfl rfl rfl) rfl ?_
     refine RL.skip (Wanted.no rfl rfl rfl rfl rfl) rfl ?_
     refine RL.skip (Wanted.no rfl rfl rfl rfl rfl) rfl ?_
     refine RL.skip (Wanted.un rfl rfl rfl) rfl ?_
     refine RL.skip (Wanted.un rfl rfl rfl) rfl ?_
     refine RL.skip (Wanted.un rfl rfl rfl) rfl ?_
     refine RL.skip (Wanted.un rfl rfl rfl) rfl ?_
     refine RL.skip (Wanted.un rfl rfl rfl) rfl ?_
     refine RL.skip (Wanted.no rfl rfl rfl rfl rfl) rfl ?_
     refine RL.val (Wanted.free rfl) (V.pick_false rfl rfl rfl) rfl ?_
     refine RL.val (Wanted.free rfl) (V.move rfl rfl) rfl ?_
     refine RL.skip (Wanted.no rfl rfl rfl rfl rfl) rfl ?_
     refine RL.val (Wanted.free rfl) (V.pick_false rfl rfl rfl) rfl ?_
     refine RL.val (Wanted.free rfl) (V.assign rfl rfl) rfl ?_
     refine RL.nil ?_
     refine SG.seq ?_
     refine SG.seq ?_
     refine SG.region ?_
     refine RL.val (Wanted.free rfl) (V.move rfl rfl) rfl ?_
     refine RL.nil ?_
     refine SG.cond_false rfl ?_
     refine SG.skip ?_
     refine SG.seq ?_
     have hg : ¬ grants p m := by unfold grants recent; omega
     have hvp : voteP p m = p := if_neg hg
     have hvm : voteM p m = ⟨2, p.id, m.frm, p.term, 0, 0, 0, [], false⟩ := by rw [voteM, decide_eq_false hg]
     rw [hvp, hvm]
     refine SG.ent (Sl.nil (T := RSlot)) ?_
     refine SG.ent (RMsg.mk (m := ⟨2, p.id, m.frm, p.term, 0, 0, 0, [], false⟩) (a := none) (n' := 0) (c := 0) memX) ?_
     refine SG.ent (RPeer.mk (p := p) (la := ka) (ln := p.log.length) (lc := kc) (va := wa) (vn := wn) (vc := wc) (ma := xa) (mn := xn) (mc := xc) memX memX memX) ?_
     refine SG.drawN 12 12 (Blk b2 26 (pv (p) (.slice ka p.log.length kc) (.slice wa wn wc) (.slice xa xn xc)) :: Blk b3 50 (mv m (.slice sa sn sc)) :: Rd RPeer (pv (p) (.slice ka p.log.length kc) (.slice wa wn wc) (.slice xa xn xc)) (p) :: Rd RMsg (mv ⟨2, p.id, m.frm, p.term, 0, 0, 0, [], false⟩ (.slice none 0 0)) ⟨2, p.id, m.frm, p.term, 0, 0, 0, [], false⟩ :: L) wide rfl rfl (by repeat (first | exact Ent.refl _ | (apply Ent.cons; (· repeat (first | exact Pick.here | (refine Pick.sl ?_; (· repeat (first | exact List.Mem.head _ | assumption | apply List.Mem.tail))) | apply Pick.there))) | (refine Ent.trans (Ent.drop _ _) ?_))) ?_
     refine RH.val 0 rfl krX krX krX krX (Wanted.free rfl) (V.loadAgg (us := pv (p) (.slice ka p.log.length kc) (.slice wa wn wc) (.slice xa xn xc)) rfl ag26 rfl pickX rfl rfl) rfl ?_
     refine RH.val 1 rfl krX krX krX krX (Wanted.free rfl) (V.fieldAddr rfl rfl fo26_0) rfl ?_
     refine RH.val 2 rfl krX krX krX krX (Wanted.free rfl) (V.load rfl on3 rfl pickX rfl) rfl ?_
     refine RH.val 3 rfl krX krX krX krX (Wanted.free rfl) (V.fieldAddr rfl rfl fo50_1) rfl ?_
     refine RH.val 4 rfl krX krX krX krX (Wanted.free rfl) (V.load rfl on3 rfl pickX rfl) rfl ?_
     refine RH.val 5 rfl krX krX krX krX (Wanted.free rfl) (V.fieldAddr rfl rfl fo26_2) rfl ?_
     refine RH.val 6 rfl krX krX krX krX (Wanted.free rfl) (V.load rfl on3 rfl pickX rfl) rfl ?_
     refine RH.val 7 rfl krX krX krX krX (Wanted.free rfl) (V.move rfl rfl) rfl ?_
     refine RH.val 8 rfl krX krX krX krX (Wanted.free rfl) (V.buildS [(0, _), (1, _), (2, _), (3, _), (8, _)] rfl bs50 (by exact ⟨rfl, ⟨_, rfl, rfl⟩, ⟨rfl, ⟨_, rfl, rfl⟩, ⟨rfl, ⟨_, rfl, rfl⟩, ⟨rfl, ⟨_, rfl, rfl⟩, ⟨rfl, ⟨_, rfl, rfl⟩, trivial⟩⟩⟩⟩⟩) rfl) rfl ?_
     refine RH.two (i := 9) (j := 10) krX ?_ ?_
     ·
      refine RHone.eff rfl (Wanted.free rfl) (E.lit1 (mv ⟨2, p.id, m.frm, p.term, 0, 0, 0, [], false⟩ (.slice none 0 0)) rfl el35.slice ze50 rfl (by decide) (by decide) rfl rfl rfl) rfl ?_
      rintro _ _ ⟨b66, rfl, rfl⟩
      refine ⟨.inr entX, ?_⟩
      refine RH.one (i := 10) krX ?_
      refine RHone.eff rfl (Wanted.free rfl) (E.storeWhole rfl rfl rfl (by rfl) sz26 pickX pv_one (by rfl)) rfl ?_
      rintro _ _ rfl
      refine ⟨.inr entX, ?_⟩
      refine RH.val 11 rfl krX krX krX krX (Wanted.free rfl) (V.assign rfl rfl) rfl ?_
      refine RH.done krX ?_
      refine SG.ent (Buf.of_els (T := RMsg) (b := b66) (e := 50) (m := 1) (l := [_]) pickX rfl rfl (by decide) (fun z h H => Rep.rows.single (Rd.rep (T := RMsg) memX z h H))) ?_
      refine SG.publish (T := RMsg) (a := some ⟨b66, 0, none⟩) pickX ?_
      refine SG.retE (Ret.r2 Try.func75 rfl (.agg rfl ag26 pickX rfl rfl) (.tmp rfl)) ?_ ⟨_, _, _, rfl, rfl⟩
      exact entX
     ·
      refine RHone.eff rfl (Wanted.free rfl) (E.storeWhole rfl rfl rfl (by rfl) sz26 pickX pv_one (by rfl)) rfl ?_
      rintro _ _ rfl
      refine ⟨.inr entX, ?_⟩
      refine RH.one (i := 9) krX ?_
      refine RHone.eff rfl (Wanted.free rfl) (E.lit1 (mv ⟨2, p.id, m.frm, p.term, 0, 0, 0, [], false⟩ (.slice none 0 0)) rfl el35.slice ze50 rfl (by decide) (by decide) rfl rfl rfl) rfl ?_
      rintro _ _ ⟨b66, rfl, rfl⟩
      refine ⟨.inr entX, ?_⟩
      refine RH.val 11 rfl krX krX krX krX (Wanted.free rfl) (V.assign rfl rfl) rfl ?_
      refine RH.done krX ?_
      refine SG.ent (Buf.of_els (T := RMsg) (b := b66) (e := 50) (m := 1) (l := [_]) pickX rfl rfl (by decide) (fun z h H => Rep.rows.single (Rd.rep (T := RMsg) memX z h H))) ?_
      refine SG.publish (T := RMsg) (a := some ⟨b66, 0, none⟩) pickX ?_
      refine SG.retE (Ret.r2 Try.func75 rfl (.agg rfl ag26 pickX rfl rfl) (.tmp rfl)) ?_ ⟨_, _, _, rfl, rfl⟩
      exact entX
   ·
    refine RL.val (Wanted.yes rfl rfl rfl rfl) (V.pick_true rfl rfl rfl) rfl ?_
    refine RL.val (Wanted.free rfl) (V.pick_false rfl rfl rfl) rfl ?_
    refine RL.val (Wanted.free rfl) (V.assign rfl rfl) rfl ?_
    refine RL.nil ?_
    refine SG.seq ?_
    refine SG.region ?_
    refine RL.val (Wanted.free rfl) (V.fieldAddr rfl rfl fo50_3) rfl ?_
    refine RL.val (Wanted.free rfl) (V.load rfl on3 rfl pickX rfl) rfl ?_
    refine RL.val (Wanted.free rfl) (V.fieldAddr rfl rfl fo26_2) rfl ?_
    refine RL.val (Wanted.free rfl) (V.load rfl on3 rfl pickX rfl) rfl ?_
    refine RL.cmp (Wanted.free rfl) (V.bin rfl rfl rfl B.eql) rfl (fun h234 => ?_) (fun h234 => ?_)
    ·
     refine RL.val (Wanted.free rfl) (V.move rfl rfl) rfl ?_
     refine RL.val (Wanted.yes rfl rfl rfl rfl) (V.fieldAddr rfl rfl fo26_3) rfl ?_
     refine RL.val (Wanted.yes rfl rfl rfl rfl) (V.load rfl on3 rfl pickX rfl) rfl ?_
     refine RL.cmp (Wanted.yes rfl rfl rfl rfl) (V.bin rfl rfl rfl B.eql) rfl (fun h238 => ?_) (fun h238 => ?_)
     ·
      refine RL.val (Wanted.yes rfl rfl rfl rfl) (V.move rfl rfl) rfl ?_
      refine RL.skip (Wanted.no rfl rfl rfl rfl rfl) rfl ?_
      refine RL.skip (Wanted.no rfl rfl rfl rfl rfl) rfl ?_
      refine RL.skip (Wanted.no rfl rfl rfl rfl rfl) rfl ?_
      refine RL.skip (Wanted.no rfl rfl rfl rfl rfl) rfl ?_
      refine RL.skip (Wanted.no rfl rfl rfl rfl rfl) rfl ?_
      refine RL.val (Wanted.yes rfl rfl rfl rfl) (V.pick_true rfl rfl rfl) rfl ?_
      refine RL.val (Wanted.free rfl) (V.pick_true rfl rfl rfl) rfl ?_
      refine RL.val (Wanted.free rfl) (V.move rfl rfl) rfl ?_
      refine RL.val (Wanted.yes rfl rfl rfl rfl) (V.move rfl rfl) rfl ?_
      refine RL.val (Wanted.free rfl) (V.pick_true rfl rfl rfl) rfl ?_
      refine RL.val (Wanted.free rfl) (V.assign rfl rfl) rfl ?_
      refine RL.nil ?_
      refine SG.seq ?_
      refine SG.seq ?_
      refine SG.region ?_
      refine RL.val (Wanted.free rfl) (V.move rfl rfl) rfl ?_
      refine RL.nil ?_
      refine SG.cond_false rfl ?_
      refine SG.skip ?_
      refine SG.seq ?_
      have hg : ¬ grants p m := by unfold grants recent; omega
      have hvp : voteP p m = p := if_neg hg
      have hvm : voteM p m = ⟨2, p.id, m.frm, p.term, 0, 0, 0, [], false⟩ := by rw [voteM, decide_eq_false hg]
      rw [hvp, hvm]
      refine SG.ent (Sl.nil (T := RSlot)) ?_
      refine SG.ent (RMsg.mk (m := ⟨2, p.id, m.frm, p.term, 0, 0, 0, [], false⟩) (a := none) (n' := 0) (c := 0) memX) ?_
      refine SG.ent (RPeer.mk (p := p) (la := ka) (ln := p.log.length) (lc := kc) (va := wa) (vn := wn) (vc := wc) (ma := xa) (mn := xn) (mc := xc) memX memX memX) ?_
      refine SG.drawN 12 12 (Blk b2 26 (pv (p) (.slice ka p.log.length kc) (.slice wa wn wc) (.slice xa xn xc)) :: Blk b3 50 (mv m (.slice sa sn sc)) :: Rd RPeer (pv (p) (.slice ka p.log.length kc) (.slice wa wn wc) (.slice xa xn xc)) (p) :: Rd RMsg (mv ⟨2, p.id, m.frm, p.term, 0, 0, 0, [], false⟩ (.slice none 0 0)) ⟨2, p.id, m.frm, p.term, 0, 0, 0, [], false⟩ :: L) wide rfl rfl (by repeat (first | exact Ent.refl _ | (apply Ent.cons; (· repeat (first | exact Pick.here | (refine Pick.sl ?_; (· repeat (first | exact List.Mem.head _ | assumption | apply List.Mem.tail))) | apply Pick.there))) | (refine Ent.trans (Ent.drop _ _) ?_))) ?_
      refine RH.val 0 rfl krX krX krX krX (Wanted.free rfl) (V.loadAgg (us := pv (p) (.slice ka p.log.length kc) (.slice wa wn wc) (.slice xa xn xc)) rfl ag26 rfl pickX rfl rfl) rfl ?_
      refine RH.val 1 rfl krX krX krX krX (Wanted.free rfl) (V.fieldAddr rfl rfl fo26_0) rfl ?_
      refine RH.val 2 rfl krX krX krX krX (Wanted.free rfl) (V.load rfl on3 rfl pickX rfl) rfl ?_
      refine RH.val 3 rfl krX krX krX krX (Wanted.free rfl) (V.fieldAddr rfl rfl fo50_1) rfl ?_
      refine RH.val 4 rfl krX krX krX krX (Wanted.free rfl) (V.load rfl on3 rfl pickX rfl) rfl ?_
      refine RH.val 5 rfl krX krX krX krX (Wanted.free rfl) (V.fieldAddr rfl rfl fo26_2) rfl ?_
      refine RH.val 6 rfl krX krX krX krX (Wanted.free rfl) (V.load rfl on3 rfl pickX rfl) rfl ?_
      refine RH.val 7 rfl krX krX krX krX (Wanted.free rfl) (V.move rfl rfl) rfl ?_
      refine RH.val 8 rfl krX krX krX krX (Wanted.free rfl) (V.buildS [(0, _), (1, _), (2, _), (3, _), (8, _)] rfl bs50 (by exact ⟨rfl, ⟨_, rfl, rfl⟩, ⟨rfl, ⟨_, rfl, rfl⟩, ⟨rfl, ⟨_, rfl, rfl⟩, ⟨rfl, ⟨_, rfl, rfl⟩, ⟨rfl, ⟨_, rfl, rfl⟩, trivial⟩⟩⟩⟩⟩) rfl) rfl ?_
      refine RH.two (i := 9) (j := 10) krX ?_ ?_
      ·
       refine RHone.eff rfl (Wanted.free rfl) (E.lit1 (mv ⟨2, p.id, m.frm, p.term, 0, 0, 0, [], false⟩ (.slice none 0 0)) rfl el35.slice ze50 rfl (by decide) (by decide) rfl rfl rfl) rfl ?_
       rintro _ _ ⟨b66, rfl, rfl⟩
       refine ⟨.inr entX, ?_⟩
       refine RH.one (i := 10) krX ?_
       refine RHone.eff rfl (Wanted.free rfl) (E.storeWhole rfl rfl rfl (by rfl) sz26 pickX pv_one (by rfl)) rfl ?_
       rintro _ _ rfl
       refine ⟨.inr entX, ?_⟩
       refine RH.val 11 rfl krX krX krX krX (Wanted.free rfl) (V.assign rfl rfl) rfl ?_
       refine RH.done krX ?_
       refine SG.ent (Buf.of_els (T := RMsg) (b := b66) (e := 50) (m := 1) (l := [_]) pickX rfl rfl (by decide) (fun z h H => Rep.rows.single (Rd.rep (T := RMsg) memX z h H))) ?_
       refine SG.publish (T := RMsg) (a := some ⟨b66, 0, none⟩) pickX ?_
       refine SG.retE (Ret.r2 Try.func75 rfl (.agg rfl ag26 pickX rfl rfl) (.tmp rfl)) ?_ ⟨_, _, _, rfl, rfl⟩
       exact entX
      ·
       refine RHone.eff rfl (Wanted.free rfl) (E.storeWhole rfl rfl rfl (by rfl) sz26 pickX pv_one (by rfl)) rfl ?_
       rintro _ _ rfl
       refine ⟨.inr entX, ?_⟩
       refine RH.one (i := 9) krX ?_
       refine RHone.eff rfl (Wanted.free rfl) (E.lit1 (mv ⟨2, p.id, m.frm, p.term, 0, 0, 0, [], false⟩ (.slice none 0 0)) rfl el35.slice ze50 rfl (by decide) (by decide) rfl rfl rfl) rfl ?_
       rintro _ _ ⟨b66, rfl, rfl⟩
       refine ⟨.inr entX, ?_⟩
       refine RH.val 11 rfl krX krX krX krX (Wanted.free rfl) (V.assign rfl rfl) rfl ?_
       refine RH.done krX ?_
       refine SG.ent (Buf.of_els (T := RMsg) (b := b66) (e := 50) (m := 1) (l := [_]) pickX rfl rfl (by decide) (fun z h H => Rep.rows.single (Rd.rep (T := RMsg) memX z h H))) ?_
       refine SG.publish (T := RMsg) (a := some ⟨b66, 0, none⟩) pickX ?_
       refine SG.retE (Ret.r2 Try.func75 rfl (.agg rfl ag26 pickX rfl rfl) (.tmp rfl)) ?_ ⟨_, _, _, rfl, rfl⟩
       exact entX
     ·
      refine RL.val (Wanted.yes rfl rfl rfl rfl) (V.move rfl rfl) rfl ?_
      refine RL.val (Wanted.yes rfl rfl rfl rfl) (V.fieldAddr rfl rfl fo26_3) rfl ?_
      refine RL.val (Wanted.yes rfl rfl rfl rfl) (V.load rfl on3 rfl pickX rfl) rfl ?_
      refine RL.val (Wanted.yes rfl rfl rfl rfl) (V.fieldAddr rfl rfl fo50_1) rfl ?_
      refine RL.val (Wanted.yes rfl rfl rfl rfl) (V.load rfl on3 rfl pickX rfl) rfl ?_
      refine RL.cmp (Wanted.yes rfl rfl rfl rfl) (V.bin rfl rfl rfl B.eql) rfl (fun h264 => ?_) (fun h264 => ?_)
      ·
       refine RL.val (Wanted.yes rfl rfl rfl rfl) (V.pick_false rfl rfl rfl) rfl ?_
       refine RL.val (Wanted.free rfl) (V.pick_true rfl rfl rfl) rfl ?_
       refine RL.val (Wanted.free rfl) (V.move rfl rfl) rfl ?_
       refine RL.val (Wanted.yes rfl rfl rfl rfl) (V.move rfl rfl) rfl ?_
       refine RL.val (Wanted.free rfl) (V.pick_true rfl rfl rfl) rfl ?_
       refine RL.val (Wanted.free rfl) (V.assign rfl rfl) rfl ?_
       refine RL.nil ?_
       refine SG.seq ?_
       refine SG.seq ?_
       refine SG.region ?_
       refine RL.val (Wanted.free rfl) (V.move rfl rfl) rfl ?_
       refine RL.nil ?_
       refine SG.cond_false rfl ?_
       refine SG.skip ?_
       refine SG.seq ?_
       have hg : ¬ grants p m := by unfold grants recent; omega
       have hvp : voteP p m = p := if_neg hg
       have hvm : voteM p m = ⟨2, p.id, m.frm, p.term, 0, 0, 0, [], false⟩ := by rw [voteM, decide_eq_false hg]
       rw [hvp, hvm]
       refine SG.ent (Sl.nil (T := RSlot)) ?_
       refine SG.ent (RMsg.mk (m := ⟨2, p.id, m.frm, p.term, 0, 0, 0, [], false⟩) (a := none) (n' := 0) (c := 0) memX) ?_
       refine SG.ent (RPeer.mk (p := p) (la := ka) (ln := p.log.length) (lc := kc) (va := wa) (vn := wn) (vc := wc) (ma := xa) (mn := xn) (mc := xc) memX memX memX) ?_
       refine SG.drawN 12 12 (Blk b2 26 (pv (p) (.slice ka p.log.length kc) (.slice wa wn wc) (.slice xa xn xc)) :: Blk b3 50 (mv m (.slice sa sn sc)) :: Rd RPeer (pv (p) (.slice ka p.log.length kc) (.slice wa wn wc) (.slice xa xn xc)) (p) :: Rd RMsg (mv ⟨2, p.id, m.frm, p.term, 0, 0, 0, [], false⟩ (.slice none 0 0)) ⟨2, p.id, m.frm, p.term, 0, 0, 0, [], false⟩ :: L) wide rfl rfl (by repeat (first | exact Ent.refl _ | (apply Ent.cons; (· repeat (first | exact Pick.here | (refine Pick.sl ?_; (· repeat (first | exact List.Mem.head _ | assumption | apply List.Mem.tail))) | apply Pick.there))) | (refine Ent.trans (Ent.drop _ _) ?_))) ?_
       refine RH.val 0 rfl krX krX krX krX (Wanted.free rfl) (V.loadAgg (us := pv (p) (.slice ka p.log.length kc) (.slice wa wn wc) (.slice xa xn xc)) rfl ag26 rfl pickX rfl rfl) rfl ?_
       refine RH.val 1 rfl krX krX krX krX (Wanted.free rfl) (V.fieldAddr rfl rfl fo26_0) rfl ?_
       refine RH.val 2 rfl krX krX krX krX (Wanted.free rfl) (V.load rfl on3 rfl pickX rfl) rfl ?_
       refine RH.val 3 rfl krX krX krX krX (Wanted.free rfl) (V.fieldAddr rfl rfl fo50_1) rfl ?_
       refine RH.val 4 rfl krX krX krX krX (Wanted.free rfl) (V.load rfl on3 rfl pickX rfl) rfl ?_
       refine RH.val 5 rfl krX krX krX krX (Wanted.free rfl) (V.fieldAddr rfl rfl fo26_2) rfl ?_
       refine RH.val 6 rfl krX krX krX krX (Wanted.free rfl) (V.load rfl on3 rfl pickX rfl) rfl ?_
       refine RH.val 7 rfl krX krX krX krX (Wanted.free rfl) (V.move rfl rfl) rfl ?_
       refine RH.val 8 rfl krX krX krX krX (Wanted.free rfl) (V.buildS [(0, _), (1, _), (2, _), (3, _), (8, _)] rfl bs50 (by exact ⟨rfl, ⟨_, rfl, rfl⟩, ⟨rfl, ⟨_, rfl, rfl⟩, ⟨rfl, ⟨_, rfl, rfl⟩, ⟨rfl, ⟨_, rfl, rfl⟩, ⟨rfl, ⟨_, rfl, rfl⟩, trivial⟩⟩⟩⟩⟩) rfl) rfl ?_
       refine RH.two (i := 9) (j := 10) krX ?_ ?_
       ·
        refine RHone.eff rfl (Wanted.free rfl) (E.lit1 (mv ⟨2, p.id, m.frm, p.term, 0, 0, 0, [], false⟩ (.slice none 0 0)) rfl el35.slice ze50 rfl (by decide) (by decide) rfl rfl rfl) rfl ?_
        rintro _ _ ⟨b66, rfl, rfl⟩
        refine ⟨.inr entX, ?_⟩
        refine RH.one (i := 10) krX ?_
        refine RHone.eff rfl (Wanted.free rfl) (E.storeWhole rfl rfl rfl (by rfl) sz26 pickX pv_one (by rfl)) rfl ?_
        rintro _ _ rfl
        refine ⟨.inr entX, ?_⟩
        refine RH.val 11 rfl krX krX krX krX (Wanted.free rfl) (V.assign rfl rfl) rfl ?_
        refine RH.done krX ?_
        refine SG.ent (Buf.of_els (T := RMsg) (b := b66) (e := 50) (m := 1) (l := [_]) pickX rfl rfl (by decide) (fun z h H => Rep.rows.single (Rd.rep (T := RMsg) memX z h H))) ?_
        refine SG.publish (T := RMsg) (a := some ⟨b66, 0, none⟩) pickX ?_
        refine SG.retE (Ret.r2 Try.func75 rfl (.agg rfl ag26 pickX rfl rfl) (.tmp rfl)) ?_ ⟨_, _, _, rfl, rfl⟩
        exact entX
       ·
        refine RHone.eff rfl (Wanted.free rfl) (E.storeWhole rfl rfl rfl (by rfl) sz26 pickX pv_one (by rfl)) rfl ?_
        rintro _ _ rfl
        refine ⟨.inr entX, ?_⟩
        refine RH.one (i := 9) krX ?_
        refine RHone.eff rfl (Wanted.free rfl) (E.lit1 (mv ⟨2, p.id, m.frm, p.term, 0, 0, 0, [], false⟩ (.slice none 0 0)) rfl el35.slice ze50 rfl (by decide) (by decide) rfl rfl rfl) rfl ?_
        rintro _ _ ⟨b66, rfl, rfl⟩
        refine ⟨.inr entX, ?_⟩
        refine RH.val 11 rfl krX krX krX krX (Wanted.free rfl) (V.assign rfl rfl) rfl ?_
        refine RH.done krX ?_
        refine SG.ent (Buf.of_els (T := RMsg) (b := b66) (e := 50) (m := 1) (l := [_]) pickX rfl rfl (by decide) (fun z h H => Rep.rows.single (Rd.rep (T := RMsg) memX z h H))) ?_
        refine SG.publish (T := RMsg) (a := some ⟨b66, 0, none⟩) pickX ?_
        refine SG.retE (Ret.r2 Try.func75 rfl (.agg rfl ag26 pickX rfl rfl) (.tmp rfl)) ?_ ⟨_, _, _, rfl, rfl⟩
        exact entX
      ·
       refine RL.val (Wanted.yes rfl rfl rfl rfl) (V.pick_false rfl rfl rfl) rfl ?_
       refine RL.val (Wanted.free rfl) (V.pick_true rfl rfl rfl) rfl ?_
       refine RL.val (Wanted.free rfl) (V.move rfl rfl) rfl ?_
       refine RL.skip (Wanted.no rfl rfl rfl rfl rfl) rfl ?_
       refine RL.val (Wanted.free rfl) (V.pick_false rfl rfl rfl) rfl ?_
       refine RL.val (Wanted.free rfl) (V.assign rfl rfl) rfl ?_
       refine RL.nil ?_
       refine SG.seq ?_
       refine SG.seq ?_
       refine SG.region ?_
       refine RL.val (Wanted.free rfl) (V.move rfl rfl) rfl ?_
       refine RL.nil ?_
       refine SG.cond_false rfl ?_
       refine SG.skip ?_
       refine SG.seq ?_
       have hg : ¬ grants p m := by unfold grants recent; omega
       have hvp : voteP p m = p := if_neg hg
       have hvm : voteM p m = ⟨2, p.id, m.frm, p.term, 0, 0, 0, [], false⟩ := by rw [voteM, decide_eq_false hg]
       rw [hvp, hvm]
       refine SG.ent (Sl.nil (T := RSlot)) ?_
       refine SG.ent (RMsg.mk (m := ⟨2, p.id, m.frm, p.term, 0, 0, 0, [], false⟩) (a := none) (n' := 0) (c := 0) memX) ?_
       refine SG.ent (RPeer.mk (p := p) (la := ka) (ln := p.log.length) (lc := kc) (va := wa) (vn := wn) (vc := wc) (ma := xa) (mn := xn) (mc := xc) memX memX memX) ?_
       refine SG.drawN 12 12 (Blk b2 26 (pv (p) (.slice ka p.log.length kc) (.slice wa wn wc) (.slice xa xn xc)) :: Blk b3 50 (mv m (.slice sa sn sc)) :: Rd RPeer (pv (p) (.slice ka p.log.length kc) (.slice wa wn wc) (.slice xa xn xc)) (p) :: Rd RMsg (mv ⟨2, p.id, m.frm, p.term, 0, 0, 0, [], false⟩ (.slice none 0 0)) ⟨2, p.id, m.frm, p.term, 0, 0, 0, [], false⟩ :: L) wide rfl rfl (by repeat (first | exact Ent.refl _ | (apply Ent.cons; (· repeat (first | exact Pick.here | (refine Pick.sl ?_; (· repeat (first | exact List.Mem.head _ | assumption | apply List.Mem.tail))) | apply Pick.there))) | (refine Ent.trans (Ent.drop _ _) ?_))) ?_
       refine RH.val 0 rfl krX krX krX krX (Wanted.free rfl) (V.loadAgg (us := pv (p) (.slice ka p.log.length kc) (.slice wa wn wc) (.slice xa xn xc)) rfl ag26 rfl pickX rfl rfl) rfl ?_
       refine RH.val 1 rfl krX krX krX krX (Wanted.free rfl) (V.fieldAddr rfl rfl fo26_0) rfl ?_
       refine RH.val 2 rfl krX krX krX krX (Wanted.free rfl) (V.load rfl on3 rfl pickX rfl) rfl ?_
       refine RH.val 3 rfl krX krX krX krX (Wanted.free rfl) (V.fieldAddr rfl rfl fo50_1) rfl ?_
       refine RH.val 4 rfl krX krX krX krX (Wanted.free rfl) (V.load rfl on3 rfl pickX rfl) rfl ?_
       refine RH.val 5 rfl krX krX krX krX (Wanted.free rfl) (V.fieldAddr rfl rfl fo26_2) rfl ?_
       refine RH.val 6 rfl krX krX krX krX (Wanted.free rfl) (V.load rfl on3 rfl pickX rfl) rfl ?_
       refine RH.val 7 rfl krX krX krX krX (Wanted.free rfl) (V.move rfl rfl) rfl ?_
       refine RH.val 8 rfl krX krX krX krX (Wanted.free rfl) (V.buildS [(0, _), (1, _), (2, _), (3, _), (8, _)] rfl bs50 (by exact ⟨rfl, ⟨_, rfl, rfl⟩, ⟨rfl, ⟨_, rfl, rfl⟩, ⟨rfl, ⟨_, rfl, rfl⟩, ⟨rfl, ⟨_, rfl, rfl⟩, ⟨rfl, ⟨_, rfl, rfl⟩, trivial⟩⟩⟩⟩⟩) rfl) rfl ?_
       refine RH.two (i := 9) (j := 10) krX ?_ ?_
       ·
        refine RHone.eff rfl (Wanted.free rfl) (E.lit1 (mv ⟨2, p.id, m.frm, p.term, 0, 0, 0, [], false⟩ (.slice none 0 0)) rfl el35.slice ze50 rfl (by decide) (by decide) rfl rfl rfl) rfl ?_
        rintro _ _ ⟨b66, rfl, rfl⟩
        refine ⟨.inr entX, ?_⟩
        refine RH.one (i := 10) krX ?_
        refine RHone.eff rfl (Wanted.free rfl) (E.storeWhole rfl rfl rfl (by rfl) sz26 pickX pv_one (by rfl)) rfl ?_
        rintro _ _ rfl
        refine ⟨.inr entX, ?_⟩
        refine RH.val 11 rfl krX krX krX krX (Wanted.free rfl) (V.assign rfl rfl) rfl ?_
        refine RH.done krX ?_
        refine SG.ent (Buf.of_els (T := RMsg) (b := b66) (e := 50) (m := 1) (l := [_]) pickX rfl rfl (by decide) (fun z h H => Rep.rows.single (Rd.rep (T := RMsg) memX z h H))) ?_
        refine SG.publish (T := RMsg) (a := some ⟨b66, 0, none⟩) pickX ?_
        refine SG.retE (Ret.r2 Try.func75 rfl (.agg rfl ag26 pickX rfl rfl) (.tmp rfl)) ?_ ⟨_, _, _, rfl, rfl⟩
        exact entX
       ·
        refine RHone.eff rfl (Wanted.free rfl) (E.storeWhole rfl rfl rfl (by rfl) sz26 pickX pv_one (by rfl)) rfl ?_
        rintro _ _ rfl
        refine ⟨.inr entX, ?_⟩
        refine RH.one (i := 9) krX ?_
        refine RHone.eff rfl (Wanted.free rfl) (E.lit1 (mv ⟨2, p.id, m.frm, p.term, 0, 0, 0, [], false⟩ (.slice none 0 0)) rfl el35.slice ze50 rfl (by decide) (by decide) rfl rfl rfl) rfl ?_
        rintro _ _ ⟨b66, rfl, rfl⟩
        refine ⟨.inr entX, ?_⟩
        refine RH.val 11 rfl krX krX krX krX (Wanted.free rfl) (V.assign rfl rfl) rfl ?_
        refine RH.done krX ?_
        refine SG.ent (Buf.of_els (T := RMsg) (b := b66) (e := 50) (m := 1) (l := [_]) pickX rfl rfl (by decide) (fun z h H => Rep.rows.single (Rd.rep (T := RMsg) memX z h H))) ?_
        refine SG.publish (T := RMsg) (a := some ⟨b66, 0, none⟩) pickX ?_
        refine SG.retE (Ret.r2 Try.func75 rfl (.agg rfl ag26 pickX rfl rfl) (.tmp rfl)) ?_ ⟨_, _, _, rfl, rfl⟩
        exact entX
    ·
     refine RL.val (Wanted.free rfl) (V.move rfl rfl) rfl ?_
     refine RL.skip (Wanted.no rfl rfl rfl rfl rfl) rfl ?_
     refine RL.skip (Wanted.no rfl rfl rfl rfl rfl) rfl ?_
     refine RL.skip (Wanted.no rfl rfl rfl rfl rfl) rfl ?_
     refine RL.skip (Wanted.no rfl rfl rfl rfl rfl) rfl ?_
     refine RL.skip (Wanted.un rfl rfl rfl) rfl ?_
     refine RL.skip (Wanted.un rfl rfl rfl) rfl ?_
     refine RL.skip (Wanted.un rfl rfl rfl) rfl ?_
     refine RL.skip (Wanted.un rfl rfl rfl) rfl ?_
     refine RL.skip (Wanted.un rfl rfl rfl) rfl ?_
     refine RL.skip (Wanted.no rfl rfl rfl rfl rfl) rfl ?_
     refine RL.val (Wanted.free rfl) (V.pick_false rfl rfl rfl) rfl ?_
     refine RL.val (Wanted.free rfl) (V.move rfl rfl) rfl ?_
     refine RL.skip (Wanted.no rfl rfl rfl rfl rfl) rfl ?_
     refine RL.val (Wanted.free rfl) (V.pick_false rfl rfl rfl) rfl ?_
     refine RL.val (Wanted.free rfl) (V.assign rfl rfl) rfl ?_
     refine RL.nil ?_
     refine SG.seq ?_
     refine SG.seq ?_
     refine SG.region ?_
     refine RL.val (Wanted.free rfl) (V.move rfl rfl) rfl ?_
     refine RL.nil ?_
     refine SG.cond_false rfl ?_
     refine SG.skip ?_
     refine SG.seq ?_
     have hg : ¬ grants p m := by unfold grants recent; omega
     have hvp : voteP p m = p := if_neg hg
     have hvm : voteM p m = ⟨2, p.id, m.frm, p.term, 0, 0, 0, [], false⟩ := by rw [voteM, decide_eq_false hg]
     rw [hvp, hvm]
     refine SG.ent (Sl.nil (T := RSlot)) ?_
     refine SG.ent (RMsg.mk (m := ⟨2, p.id, m.frm, p.term, 0, 0, 0, [], false⟩) (a := none) (n' := 0) (c := 0) memX) ?_
     refine SG.ent (RPeer.mk (p := p) (la := ka) (ln := p.log.length) (lc := kc) (va := wa) (vn := wn) (vc := wc) (ma := xa) (mn := xn) (mc := xc) memX memX memX) ?_
     refine SG.drawN 12 12 (Blk b2 26 (pv (p) (.slice ka p.log.length kc) (.slice wa wn wc) (.slice xa xn xc)) :: Blk b3 50 (mv m (.slice sa sn sc)) :: Rd RPeer (pv (p) (.slice ka p.log.length kc) (.slice wa wn wc) (.slice xa xn xc)) (p) :: Rd RMsg (mv ⟨2, p.id, m.frm, p.term, 0, 0, 0, [], false⟩ (.slice none 0 0)) ⟨2, p.id, m.frm, p.term, 0, 0, 0, [], false⟩ :: L) wide rfl rfl (by repeat (first | exact Ent.refl _ | (apply Ent.cons; (· repeat (first | exact Pick.here | (refine Pick.sl ?_; (· repeat (first | exact List.Mem.head _ | assumption | apply List.Mem.tail))) | apply Pick.there))) | (refine Ent.trans (Ent.drop _ _) ?_))) ?_
     refine RH.val 0 rfl krX krX krX krX (Wanted.free rfl) (V.loadAgg (us := pv (p) (.slice ka p.log.length kc) (.slice wa wn wc) (.slice xa xn xc)) rfl ag26 rfl pickX rfl rfl) rfl ?_
     refine RH.val 1 rfl krX krX krX krX (Wanted.free rfl) (V.fieldAddr rfl rfl fo26_0) rfl ?_
     refine RH.val 2 rfl krX krX krX krX (Wanted.free rfl) (V.load rfl on3 rfl pickX rfl) rfl ?_
     refine RH.val 3 rfl krX krX krX krX (Wanted.free rfl) (V.fieldAddr rfl rfl fo50_1) rfl ?_
     refine RH.val 4 rfl krX krX krX krX (Wanted.free rfl) (V.load rfl on3 rfl pickX rfl) rfl ?_
     refine RH.val 5 rfl krX krX krX krX (Wanted.free rfl) (V.fieldAddr rfl rfl fo26_2) rfl ?_
     refine RH.val 6 rfl krX krX krX krX (Wanted.free rfl) (V.load rfl on3 rfl pickX rfl) rfl ?_
     refine RH.val 7 rfl krX krX krX krX (Wanted.free rfl) (V.move rfl rfl) rfl ?_
     refine RH.val 8 rfl krX krX krX krX (Wanted.free rfl) (V.buildS [(0, _), (1, _), (2, _), (3, _), (8, _)] rfl bs50 (by exact ⟨rfl, ⟨_, rfl, rfl⟩, ⟨rfl, ⟨_, rfl, rfl⟩, ⟨rfl, ⟨_, rfl, rfl⟩, ⟨rfl, ⟨_, rfl, rfl⟩, ⟨rfl, ⟨_, rfl, rfl⟩, trivial⟩⟩⟩⟩⟩) rfl) rfl ?_
     refine RH.two (i := 9) (j := 10) krX ?_ ?_
     ·
      refine RHone.eff rfl (Wanted.free rfl) (E.lit1 (mv ⟨2, p.id, m.frm, p.term, 0, 0, 0, [], false⟩ (.slice none 0 0)) rfl el35.slice ze50 rfl (by decide) (by decide) rfl rfl rfl) rfl ?_
      rintro _ _ ⟨b66, rfl, rfl⟩
      refine ⟨.inr entX, ?_⟩
      refine RH.one (i := 10) krX ?_
      refine RHone.eff rfl (Wanted.free rfl) (E.storeWhole rfl rfl rfl (by rfl) sz26 pickX pv_one (by rfl)) rfl ?_
      rintro _ _ rfl
      refine ⟨.inr entX, ?_⟩
      refine RH.val 11 rfl krX krX krX krX (Wanted.free rfl) (V.assign rfl rfl) rfl ?_
      refine RH.done krX ?_
      refine SG.ent (Buf.of_els (T := RMsg) (b := b66) (e := 50) (m := 1) (l := [_]) pickX rfl rfl (by decide) (fun z h H => Rep.rows.single (Rd.rep (T := RMsg) memX z h H))) ?_
      refine SG.publish (T := RMsg) (a := some ⟨b66, 0, none⟩) pickX ?_
      refine SG.retE (Ret.r2 Try.func75 rfl (.agg rfl ag26 pickX rfl rfl) (.tmp rfl)) ?_ ⟨_, _, _, rfl, rfl⟩
      exact entX
     ·
      refine RHone.eff rfl (Wanted.free rfl) (E.storeWhole rfl rfl rfl (by rfl) sz26 pickX pv_one (by rfl)) rfl ?_
      rintro _ _ rfl
      refine ⟨.inr entX, ?_⟩
      refine RH.one (i := 9) krX ?_
      refine RHone.eff rfl (Wanted.free rfl) (E.lit1 (mv ⟨2, p.id, m.frm, p.term, 0, 0, 0, [], false⟩ (.slice none 0 0)) rfl el35.slice ze50 rfl (by decide) (by decide) rfl rfl rfl) rfl ?_
      rintro _ _ ⟨b66, rfl, rfl⟩
      refine ⟨.inr entX, ?_⟩
      refine RH.val 11 rfl krX krX krX krX (Wanted.free rfl) (V.assign rfl rfl) rfl ?_
      refine RH.done krX ?_
      refine SG.ent (Buf.of_els (T := RMsg) (b := b66) (e := 50) (m := 1) (l := [_]) pickX rfl rfl (by decide) (fun z h H => Rep.rows.single (Rd.rep (T := RMsg) memX z h H))) ?_
      refine SG.publish (T := RMsg) (a := some ⟨b66, 0, none⟩) pickX ?_
      refine SG.retE (Ret.r2 Try.func75 rfl (.agg rfl ag26 pickX rfl rfl) (.tmp rfl)) ?_ ⟨_, _, _, rfl, rfl⟩
      exact entX
  ·
   refine RL.val (Wanted.yes rfl rfl rfl rfl) (V.move rfl rfl) rfl ?_
   refine RL.skip (Wanted.no rfl rfl rfl rfl rfl) rfl ?_
   refine RL.skip (Wanted.no rfl rfl rfl rfl rfl) rfl ?_
   refine RL.skip (Wanted.no rfl rfl rfl rfl rfl) rfl ?_
   refine RL.skip (Wanted.no rfl rfl rfl rfl rfl) rfl ?_
   refine RL.skip (Wanted.no rfl rfl rfl rfl rfl) rfl ?_
   refine RL.skip (Wanted.no rfl rfl rfl rfl rfl) rfl ?_
   refine RL.val (Wanted.yes rfl rfl rfl rfl) (V.pick_false rfl rfl rfl) rfl ?_
   refine RL.val (Wanted.free rfl) (V.pick_false rfl rfl rfl) rfl ?_
   refine RL.val (Wanted.free rfl) (V.assign rfl rfl) rfl ?_
   refine RL.nil ?_
   refine SG.seq ?_
   refine SG.region ?_
   refine RL.val (Wanted.free rfl) (V.fieldAddr rfl rfl fo50_3) rfl ?_
   refine RL.val (Wanted.free rfl) (V.load rfl on3 rfl pickX rfl) rfl ?_
   refine RL.val (Wanted.free rfl) (V.fieldAddr rfl rfl fo26_2) rfl ?_
   refine RL.val (Wanted.free rfl) (V.load rfl on3 rfl pickX rfl) rfl ?_
   refine RL.cmp (Wanted.free rfl) (V.bin rfl rfl rfl B.eql) rfl (fun h327 => ?_) (fun h327 => ?_)
   ·
    refine RL.val (Wanted.free rfl) (V.move rfl rfl) rfl ?_
    refine RL.val (Wanted.yes rfl rfl rfl rfl) (V.fieldAddr rfl rfl fo26_3) rfl ?_
    refine RL.val (Wanted.yes rfl rfl rfl rfl) (V.load rfl on3 rfl pickX rfl) rfl ?_
    refine RL.cmp (Wanted.yes rfl rfl rfl rfl) (V.bin rfl rfl rfl B.eql) rfl (fun h331 => ?_) (fun h331 => ?_)
    ·
     refine RL.val (Wanted.yes rfl rfl rfl rfl) (V.move rfl rfl) rfl ?_
     refine RL.skip (Wanted.no rfl rfl rfl rfl rfl) rfl ?_
     refine RL.skip (Wanted.no rfl rfl rfl rfl rfl) rfl ?_
     refine RL.skip (Wanted.no rfl rfl rfl rfl rfl) rfl ?_
     refine RL.skip (Wanted.no rfl rfl rfl rfl rfl) rfl ?_
     refine RL.skip (Wanted.no rfl rfl rfl rfl rfl) rfl ?_
     refine RL.val (Wanted.yes rfl rfl rfl rfl) (V.pick_true rfl rfl rfl) rfl ?_
     refine RL.val (Wanted.free rfl) (V.pick_true rfl rfl rfl) rfl ?_
     refine RL.val (Wanted.free rfl) (V.move rfl rfl) rfl ?_
     refine RL.val (Wanted.yes rfl rfl rfl rfl) (V.move rfl rfl) rfl ?_
     refine RL.val (Wanted.free rfl) (V.pick_true rfl rfl rfl) rfl ?_
     refine RL.val (Wanted.free rfl) (V.assign rfl rfl) rfl ?_
     refine RL.nil ?_
     refine SG.seq ?_
     refine SG.seq ?_
     refine SG.region ?_
     refine RL.val (Wanted.free rfl) (V.move rfl rfl) rfl ?_
     refine RL.nil ?_
     refine SG.cond_false rfl ?_
     refine SG.skip ?_
     refine SG.seq ?_
     have hg : ¬ grants p m := by unfold grants recent; omega
     have hvp : voteP p m = p := if_neg hg
     have hvm : voteM p m = ⟨2, p.id, m.frm, p.term, 0, 0, 0, [], false⟩ := by rw [voteM, decide_eq_false hg]
     rw [hvp, hvm]
     refine SG.ent (Sl.nil (T := RSlot)) ?_
     refine SG.ent (RMsg.mk (m := ⟨2, p.id, m.frm, p.term, 0, 0, 0, [], false⟩) (a := none) (n' := 0) (c := 0) memX) ?_
     refine SG.ent (RPeer.mk (p := p) (la := ka) (ln := p.log.length) (lc := kc) (va := wa) (vn := wn) (vc := wc) (ma := xa) (mn := xn) (mc := xc) memX memX memX) ?_
     refine SG.drawN 12 12 (Blk b2 26 (pv (p) (.slice ka p.log.length kc) (.slice wa wn wc) (.slice xa xn xc)) :: Blk b3 50 (mv m (.slice sa sn sc)) :: Rd RPeer (pv (p) (.slice ka p.log.length kc) (.slice wa wn wc) (.slice xa xn xc)) (p) :: Rd RMsg (mv ⟨2, p.id, m.frm, p.term, 0, 0, 0, [], false⟩ (.slice none 0 0)) ⟨2, p.id, m.frm, p.term, 0, 0, 0, [], false⟩ :: L) wide rfl rfl (by repeat (first | exact Ent.refl _ | (apply Ent.cons; (· repeat (first | exact Pick.here | (refine Pick.sl ?_; (· repeat (first | exact List.Mem.head _ | assumption | apply List.Mem.tail))) | apply Pick.there))) | (refine Ent.trans (Ent.drop _ _) ?_))) ?_
     refine RH.val 0 rfl krX krX krX krX (Wanted.free rfl) (V.loadAgg (us := pv (p) (.slice ka p.log.length kc) (.slice wa wn wc) (.slice xa xn xc)) rfl ag26 rfl pickX rfl rfl) rfl ?_
     refine RH.val 1 rfl krX krX krX krX (Wanted.free rfl) (V.fieldAddr rfl rfl fo26_0) rfl ?_
     refine RH.val 2 rfl krX krX krX krX (Wanted.free rfl) (V.load rfl on3 rfl pickX rfl) rfl ?_
     refine RH.val 3 rfl krX krX krX krX (Wanted.free rfl) (V.fieldAddr rfl rfl fo50_1) rfl ?_
     refine RH.val 4 rfl krX krX krX krX (Wanted.free rfl) (V.load rfl on3 rfl pickX rfl) rfl ?_
     refine RH.val 5 rfl krX krX krX krX (Wanted.free rfl) (V.fieldAddr rfl rfl fo26_2) rfl ?_
     refine RH.val 6 rfl krX krX krX krX (Wanted.free rfl) (V.load rfl on3 rfl pickX rfl) rfl ?_
     refine RH.val 7 rfl krX krX krX krX (Wanted.free rfl) (V.move rfl rfl) rfl ?_
     refine RH.val 8 rfl krX krX krX krX (Wanted.free rfl) (V.buildS [(0, _), (1, _), (2, _), (3, _), (8, _)] rfl bs50 (by exact ⟨rfl, ⟨_, rfl, rfl⟩, ⟨rfl, ⟨_, rfl, rfl⟩, ⟨rfl, ⟨_, rfl, rfl⟩, ⟨rfl, ⟨_, rfl, rfl⟩, ⟨rfl, ⟨_, rfl, rfl⟩, trivial⟩⟩⟩⟩⟩) rfl) rfl ?_
     refine RH.two (i := 9) (j := 10) krX ?_ ?_
     ·
      refine RHone.eff rfl (Wanted.free rfl) (E.lit1 (mv ⟨2, p.id, m.frm, p.term, 0, 0, 0, [], false⟩ (.slice none 0 0)) rfl el35.slice ze50 rfl (by decide) (by decide) rfl rfl rfl) rfl ?_
      rintro _ _ ⟨b66, rfl, rfl⟩
      refine ⟨.inr entX, ?_⟩
      refine RH.one (i := 10) krX ?_
      refine RHone.eff rfl (Wanted.free rfl) (E.storeWhole rfl rfl rfl (by rfl) sz26 pickX pv_one (by rfl)) rfl ?_
      rintro _ _ rfl
      refine ⟨.inr entX, ?_⟩
      refine RH.val 11 rfl krX krX krX krX (Wanted.free rfl) (V.assign rfl rfl) rfl ?_
      refine RH.done krX ?_
      refine SG.ent (Buf.of_els (T := RMsg) (b := b66) (e := 50) (m := 1) (l := [_]) pickX rfl rfl (by decide) (fun z h H => Rep.rows.single (Rd.rep (T := RMsg) memX z h H))) ?_
      refine SG.publish (T := RMsg) (a := some ⟨b66, 0, none⟩) pickX ?_
      refine SG.retE (Ret.r2 Try.func75 rfl (.agg rfl ag26 pickX rfl rfl) (.tmp rfl)) ?_ ⟨_, _, _, rfl, rfl⟩
      exact entX
     ·
      refine RHone.eff rfl (Wanted.free rfl) (E.storeWhole rfl rfl rfl (by rfl) sz26 pickX pv_one (by rfl)) rfl ?_
      rintro _ _ rfl
      refine ⟨.inr entX, ?_⟩
      refine RH.one (i := 9) krX ?_
      refine RHone.eff rfl (Wanted.free rfl) (E.lit1 (mv ⟨2, p.id, m.frm, p.term, 0, 0, 0, [], false⟩ (.slice none 0 0)) rfl el35.slice ze50 rfl (by decide) (by decide) rfl rfl rfl) rfl ?_
      rintro _ _ ⟨b66, rfl, rfl⟩
      refine ⟨.inr entX, ?_⟩
      refine RH.val 11 rfl krX krX krX krX (Wanted.free rfl) (V.assign rfl rfl) rfl ?_
      refine RH.done krX ?_
      refine SG.ent (Buf.of_els (T := RMsg) (b := b66) (e := 50) (m := 1) (l := [_]) pickX rfl rfl (by decide) (fun z h H => Rep.rows.single (Rd.rep (T := RMsg) memX z h H))) ?_
      refine SG.publish (T := RMsg) (a := some ⟨b66, 0, none⟩) pickX ?_
      refine SG.retE (Ret.r2 Try.func75 rfl (.agg rfl ag26 pickX rfl rfl) (.tmp rfl)) ?_ ⟨_, _, _, rfl, rfl⟩
      exact entX
    ·
     refine RL.val (Wanted.yes rfl rfl rfl rfl) (V.move rfl rfl) rfl ?_
     refine RL.val (Wanted.yes rfl rfl rfl rfl) (V.fieldAddr rfl rfl fo26_3) rfl ?_
     refine RL.val (Wanted.yes rfl rfl rfl rfl) (V.load rfl on3 rfl pickX rfl) rfl ?_
     refine RL.val (Wanted.yes rfl rfl rfl rfl) (V.fieldAddr rfl rfl fo50_1) rfl ?_
     refine RL.val (Wanted.yes rfl rfl rfl rfl) (V.load rfl on3 rfl pickX rfl) rfl ?_
     refine RL.cmp (Wanted.yes rfl rfl rfl rfl) (V.bin rfl rfl rfl B.eql) rfl (fun h357 => ?_) (fun h357 => ?_)
     ·
      refine RL.val (Wanted.yes rfl rfl rfl rfl) (V.pick_false rfl rfl rfl) rfl ?_
      refine RL.val (Wanted.free rfl) (V.pick_true rfl rfl rfl) rfl ?_
      refine RL.val (Wanted.free rfl) (V.move rfl rfl) rfl ?_
      refine RL.val (Wanted.yes rfl rfl rfl rfl) (V.move rfl rfl) rfl ?_
      refine RL.val (Wanted.free rfl) (V.pick_true rfl rfl rfl) rfl ?_
      refine RL.val (Wanted.free rfl) (V.assign rfl rfl) rfl ?_
      refine RL.nil ?_
      refine SG.seq ?_
      refine SG.seq ?_
      refine SG.region ?_
      refine RL.val (Wanted.free rfl) (V.move rfl rfl) rfl ?_
      refine RL.nil ?_
      refine SG.cond_false rfl ?_
      refine SG.skip ?_
      refine SG.seq ?_
      have hg : ¬ grants p m := by unfold grants recent; omega
      have hvp : voteP p m = p := if_neg hg
      have hvm : voteM p m = ⟨2, p.id, m.frm, p.term, 0, 0, 0, [], false⟩ := by rw [voteM, decide_eq_false hg]
      rw [hvp, hvm]
      refine SG.ent (Sl.nil (T := RSlot)) ?_
      refine SG.ent (RMsg.mk (m := ⟨2, p.id, m.frm, p.term, 0, 0, 0, [], false⟩) (a := none) (n' := 0) (c := 0) memX) ?_
      refine SG.ent (RPeer.mk (p := p) (la := ka) (ln := p.log.length) (lc := kc) (va := wa) (vn := wn) (vc := wc) (ma := xa) (mn := xn) (mc := xc) memX memX memX) ?_
      refine SG.drawN 12 12 (Blk b2 26 (pv (p) (.slice ka p.log.length kc) (.slice wa wn wc) (.slice xa xn xc)) :: Blk b3 50 (mv m (.slice sa sn sc)) :: Rd RPeer (pv (p) (.slice ka p.log.length kc) (.slice wa wn wc) (.slice xa xn xc)) (p) :: Rd RMsg (mv ⟨2, p.id, m.frm, p.term, 0, 0, 0, [], false⟩ (.slice none 0 0)) ⟨2, p.id, m.frm, p.term, 0, 0, 0, [], false⟩ :: L) wide rfl rfl (by repeat (first | exact Ent.refl _ | (apply Ent.cons; (· repeat (first | exact Pick.here | (refine Pick.sl ?_; (· repeat (first | exact List.Mem.head _ | assumption | apply List.Mem.tail))) | apply Pick.there))) | (refine Ent.trans (Ent.drop _ _) ?_))) ?_
      refine RH.val 0 rfl krX krX krX krX (Wanted.free rfl) (V.loadAgg (us := pv (p) (.slice ka p.log.length kc) (.slice wa wn wc) (.slice xa xn xc)) rfl ag26 rfl pickX rfl rfl) rfl ?_
      refine RH.val 1 rfl krX krX krX krX (Wanted.free rfl) (V.fieldAddr rfl rfl fo26_0) rfl ?_
      refine RH.val 2 rfl krX krX krX krX (Wanted.free rfl) (V.load rfl on3 rfl pickX rfl) rfl ?_
      refine RH.val 3 rfl krX krX krX krX (Wanted.free rfl) (V.fieldAddr rfl rfl fo50_1) rfl ?_
      refine RH.val 4 rfl krX krX krX krX (Wanted.free rfl) (V.load rfl on3 rfl pickX rfl) rfl ?_
      refine RH.val 5 rfl krX krX krX krX (Wanted.free rfl) (V.fieldAddr rfl rfl fo26_2) rfl ?_
      refine RH.val 6 rfl krX krX krX krX (Wanted.free rfl) (V.load rfl on3 rfl pickX rfl) rfl ?_
      refine RH.val 7 rfl krX krX krX krX (Wanted.free rfl) (V.move rfl rfl) rfl ?_
      refine RH.val 8 rfl krX krX krX krX (Wanted.free rfl) (V.buildS [(0, _), (1, _), (2, _), (3, _), (8, _)] rfl bs50 (by exact ⟨rfl, ⟨_, rfl, rfl⟩, ⟨rfl, ⟨_, rfl, rfl⟩, ⟨rfl, ⟨_, rfl, rfl⟩, ⟨rfl, ⟨_, rfl, rfl⟩, ⟨rfl, ⟨_, rfl, rfl⟩, trivial⟩⟩⟩⟩⟩) rfl) rfl ?_
      refine RH.two (i := 9) (j := 10) krX ?_ ?_
      ·
       refine RHone.eff rfl (Wanted.free rfl) (E.lit1 (mv ⟨2, p.id, m.frm, p.term, 0, 0, 0, [], false⟩ (.slice none 0 0)) rfl el35.slice ze50 rfl (by decide) (by decide) rfl rfl rfl) rfl ?_
       rintro _ _ ⟨b66, rfl, rfl⟩
       refine ⟨.inr entX, ?_⟩
       refine RH.one (i := 10) krX ?_
       refine RHone.eff rfl (Wanted.free rfl) (E.storeWhole rfl rfl rfl (by rfl) sz26 pickX pv_one (by rfl)) rfl ?_
       rintro _ _ rfl
       refine ⟨.inr entX, ?_⟩
       refine RH.val 11 rfl krX krX krX krX (Wanted.free rfl) (V.assign rfl rfl) rfl ?_
       refine RH.done krX ?_
       refine SG.ent (Buf.of_els (T := RMsg) (b := b66) (e := 50) (m := 1) (l := [_]) pickX rfl rfl (by decide) (fun z h H => Rep.rows.single (Rd.rep (T := RMsg) memX z h H))) ?_
       refine SG.publish (T := RMsg) (a := some ⟨b66, 0, none⟩) pickX ?_
       refine SG.retE (Ret.r2 Try.func75 rfl (.agg rfl ag26 pickX rfl rfl) (.tmp rfl)) ?_ ⟨_, _, _, rfl, rfl⟩
       exact entX
      ·
       refine RHone.eff rfl (Wanted.free rfl) (E.storeWhole rfl rfl rfl (by rfl) sz26 pickX pv_one (by rfl)) rfl ?_
       rintro _ _ rfl
       refine ⟨.inr entX, ?_⟩
       refine RH.one (i := 9) krX ?_
       refine RHone.eff rfl (Wanted.free rfl) (E.lit1 (mv ⟨2, p.id, m.frm, p.term, 0, 0, 0, [], false⟩ (.slice none 0 0)) rfl el35.slice ze50 rfl (by decide) (by decide) rfl rfl rfl) rfl ?_
       rintro _ _ ⟨b66, rfl, rfl⟩
       refine ⟨.inr entX, ?_⟩
       refine RH.val 11 rfl krX krX krX krX (Wanted.free rfl) (V.assign rfl rfl) rfl ?_
       refine RH.done krX ?_
       refine SG.ent (Buf.of_els (T := RMsg) (b := b66) (e := 50) (m := 1) (l := [_]) pickX rfl rfl (by decide) (fun z h H => Rep.rows.single (Rd.rep (T := RMsg) memX z h H))) ?_
       refine SG.publish (T := RMsg) (a := some ⟨b66, 0, none⟩) pickX ?_
       refine SG.retE (Ret.r2 Try.func75 rfl (.agg rfl ag26 pickX rfl rfl) (.tmp rfl)) ?_ ⟨_, _, _, rfl, rfl⟩
       exact entX
     ·
      refine RL.val (Wanted.yes rfl rfl rfl rfl) (V.pick_false rfl rfl rfl) rfl ?_
      refine RL.val (Wanted.free rfl) (V.pick_true rfl rfl rfl) rfl ?_
      refine RL.val (Wanted.free rfl) (V.move rfl rfl) rfl ?_
      refine RL.skip (Wanted.no rfl rfl rfl rfl rfl) rfl ?_
      refine RL.val (Wanted.free rfl) (V.pick_false rfl rfl rfl) rfl ?_
      refine RL.val (Wanted.free rfl) (V.assign rfl rfl) rfl ?_
      refine RL.nil ?_
      refine SG.seq ?_
      refine SG.seq ?_
      refine SG.region ?_
      refine RL.val (Wanted.free rfl) (V.move rfl rfl) rfl ?_
      refine RL.nil ?_
      refine SG.cond_false rfl ?_
      refine SG.skip ?_
      refine SG.seq ?_
      have hg : ¬ grants p m := by unfold grants recent; omega
      have hvp : voteP p m = p := if_neg hg
      have hvm : voteM p m = ⟨2, p.id, m.frm, p.term, 0, 0, 0, [], false⟩ := by rw [voteM, decide_eq_false hg]
      rw [hvp, hvm]
      refine SG.ent (Sl.nil (T := RSlot)) ?_
      refine SG.ent (RMsg.mk (m := ⟨2, p.id, m.frm, p.term, 0, 0, 0, [], false⟩) (a := none) (n' := 0) (c := 0) memX) ?_
      refine SG.ent (RPeer.mk (p := p) (la := ka) (ln := p.log.length) (lc := kc) (va := wa) (vn := wn) (vc := wc) (ma := xa) (mn := xn) (mc := xc) memX memX memX) ?_
      refine SG.drawN 12 12 (Blk b2 26 (pv (p) (.slice ka p.log.length kc) (.slice wa wn wc) (.slice xa xn xc)) :: Blk b3 50 (mv m (.slice sa sn sc)) :: Rd RPeer (pv (p) (.slice ka p.log.length kc) (.slice wa wn wc) (.slice xa xn xc)) (p) :: Rd RMsg (mv ⟨2, p.id, m.frm, p.term, 0, 0, 0, [], false⟩ (.slice none 0 0)) ⟨2, p.id, m.frm, p.term, 0, 0, 0, [], false⟩ :: L) wide rfl rfl (by repeat (first | exact Ent.refl _ | (apply Ent.cons; (· repeat (first | exact Pick.here | (refine Pick.sl ?_; (· repeat (first | exact List.Mem.head _ | assumption | apply List.Mem.tail))) | apply Pick.there))) | (refine Ent.trans (Ent.drop _ _) ?_))) ?_
      refine RH.val 0 rfl krX krX krX krX (Wanted.free rfl) (V.loadAgg (us := pv (p) (.slice ka p.log.length kc) (.slice wa wn wc) (.slice xa xn xc)) rfl ag26 rfl pickX rfl rfl) rfl ?_
      refine RH.val 1 rfl krX krX krX krX (Wanted.free rfl) (V.fieldAddr rfl rfl fo26_0) rfl ?_
      refine RH.val 2 rfl krX krX krX krX (Wanted.free rfl) (V.load rfl on3 rfl pickX rfl) rfl ?_
      refine RH.val 3 rfl krX krX krX krX (Wanted.free rfl) (V.fieldAddr rfl rfl fo50_1) rfl ?_
      refine RH.val 4 rfl krX krX krX krX (Wanted.free rfl) (V.load rfl on3 rfl pickX rfl) rfl ?_
      refine RH.val 5 rfl krX krX krX krX (Wanted.free rfl) (V.fieldAddr rfl rfl fo26_2) rfl ?_
      refine RH.val 6 rfl krX krX krX krX (Wanted.free rfl) (V.load rfl on3 rfl pickX rfl) rfl ?_
      refine RH.val 7 rfl krX krX krX krX (Wanted.free rfl) (V.move rfl rfl) rfl ?_
      refine RH.val 8 rfl krX krX krX krX (Wanted.free rfl) (V.buildS [(0, _), (1, _), (2, _), (3, _), (8, _)] rfl bs50 (by exact ⟨rfl, ⟨_, rfl, rfl⟩, ⟨rfl, ⟨_, rfl, rfl⟩, ⟨rfl, ⟨_, rfl, rfl⟩, ⟨rfl, ⟨_, rfl, rfl⟩, ⟨rfl, ⟨_, rfl, rfl⟩, trivial⟩⟩⟩⟩⟩) rfl) rfl ?_
      refine RH.two (i := 9) (j := 10) krX ?_ ?_
      ·
       refine RHone.eff rfl (Wanted.free rfl) (E.lit1 (mv ⟨2, p.id, m.frm, p.term, 0, 0, 0, [], false⟩ (.slice none 0 0)) rfl el35.slice ze50 rfl (by decide) (by decide) rfl rfl rfl) rfl ?_
       rintro _ _ ⟨b66, rfl, rfl⟩
       refine ⟨.inr entX, ?_⟩
       refine RH.one (i := 10) krX ?_
       refine RHone.eff rfl (Wanted.free rfl) (E.storeWhole rfl rfl rfl (by rfl) sz26 pickX pv_one (by rfl)) rfl ?_
       rintro _ _ rfl
       refine ⟨.inr entX, ?_⟩
       refine RH.val 11 rfl krX krX krX krX (Wanted.free rfl) (V.assign rfl rfl) rfl ?_
       refine RH.done krX ?_
       refine SG.ent (Buf.of_els (T := RMsg) (b := b66) (e := 50) (m := 1) (l := [_]) pickX rfl rfl (by decide) (fun z h H => Rep.rows.single (Rd.rep (T := RMsg) memX z h H))) ?_
       refine SG.publish (T := RMsg) (a := some ⟨b66, 0, none⟩) pickX ?_
       refine SG.retE (Ret.r2 Try.func75 rfl (.agg rfl ag26 pickX rfl rfl) (.tmp rfl)) ?_ ⟨_, _, _, rfl, rfl⟩
       exact entX
      ·
       refine RHone.eff rfl (Wanted.free rfl) (E.storeWhole rfl rfl rfl (by rfl) sz26 pickX pv_one (by rfl)) rfl ?_
       rintro _ _ rfl
       refine ⟨.inr entX, ?_⟩
       refine RH.one (i := 9) krX ?_
       refine RHone.eff rfl (Wanted.free rfl) (E.lit1 (mv ⟨2, p.id, m.frm, p.term, 0, 0, 0, [], false⟩ (.slice none 0 0)) rfl el35.slice ze50 rfl (by decide) (by decide) rfl rfl rfl) rfl ?_
       rintro _ _ ⟨b66, rfl, rfl⟩
       refine ⟨.inr entX, ?_⟩
       refine RH.val 11 rfl krX krX krX krX (Wanted.free rfl) (V.assign rfl rfl) rfl ?_
       refine RH.done krX ?_
       refine SG.ent (Buf.of_els (T := RMsg) (b := b66) (e := 50) (m := 1) (l := [_]) pickX rfl rfl (by decide) (fun z h H => Rep.rows.single (Rd.rep (T := RMsg) memX z h H))) ?_
       refine SG.publish (T := RMsg) (a := some ⟨b66, 0, none⟩) pickX ?_
       refine SG.retE (Ret.r2 Try.func75 rfl (.agg rfl ag26 pickX rfl rfl) (.tmp rfl)) ?_ ⟨_, _, _, rfl, rfl⟩
       exact entX
   ·
    refine RL.val (Wanted.free rfl) (V.move rfl rfl) rfl ?_
    refine RL.skip (Wanted.no rfl rfl rfl rfl rfl) rfl ?_
    refine RL.skip (Wanted.no rfl rfl rfl rfl rfl) rfl ?_
    refine RL.skip (Wanted.no rfl rfl rfl rfl rfl) rfl ?_
    refine RL.skip (Wanted.no rfl rfl rfl rfl rfl) rfl ?_
    refine RL.skip (Wanted.un rfl rfl rfl) rfl ?_
    refine RL.skip (Wanted.un rfl rfl rfl) rfl ?_
    refine RL.skip (Wanted.un rfl rfl rfl) rfl ?_
    refine RL.skip (Wanted.un rfl rfl rfl) rfl ?_
    refine RL.skip (Wanted.un rfl rfl rfl) rfl ?_
    refine RL.skip (Wanted.no rfl rfl rfl rfl rfl) rfl ?_
    refine RL.val (Wanted.free rfl) (V.pick_false rfl rfl rfl) rfl ?_
    refine RL.val (Wanted.free rfl) (V.move rfl rfl) rfl ?_
    refine RL.skip (Wanted.no rfl rfl rfl rfl rfl) rfl ?_
    refine RL.val (Wanted.free rfl) (V.pick_false rfl rfl rfl) rfl ?_
    refine RL.val (Wanted.free rfl) (V.assign rfl rfl) rfl ?_
    refine RL.nil ?_
    refine SG.seq ?_
    refine SG.seq ?_
    refine SG.region ?_
    refine RL.val (Wanted.free rfl) (V.move rfl rfl) rfl ?_
    refine RL.nil ?_
    refine SG.cond_false rfl ?_
    refine SG.skip ?_
    refine SG.seq ?_
    have hg : ¬ grants p m := by unfold grants recent; omega
    have hvp : voteP p m = p := if_neg hg
    have hvm : voteM p m = ⟨2, p.id, m.frm, p.term, 0, 0, 0, [], false⟩ := by rw [voteM, decide_eq_false hg]
    rw [hvp, hvm]
    refine SG.ent (Sl.nil (T := RSlot)) ?_
    refine SG.ent (RMsg.mk (m := ⟨2, p.id, m.frm, p.term, 0, 0, 0, [], false⟩) (a := none) (n' := 0) (c := 0) memX) ?_
    refine SG.ent (RPeer.mk (p := p) (la := ka) (ln := p.log.length) (lc := kc) (va := wa) (vn := wn) (vc := wc) (ma := xa) (mn := xn) (mc := xc) memX memX memX) ?_
    refine SG.drawN 12 12 (Blk b2 26 (pv (p) (.slice ka p.log.length kc) (.slice wa wn wc) (.slice xa xn xc)) :: Blk b3 50 (mv m (.slice sa sn sc)) :: Rd RPeer (pv (p) (.slice ka p.log.length kc) (.slice wa wn wc) (.slice xa xn xc)) (p) :: Rd RMsg (mv ⟨2, p.id, m.frm, p.term, 0, 0, 0, [], false⟩ (.slice none 0 0)) ⟨2, p.id, m.frm, p.term, 0, 0, 0, [], false⟩ :: L) wide rfl rfl (by repeat (first | exact Ent.refl _ | (apply Ent.cons; (· repeat (first | exact Pick.here | (refine Pick.sl ?_; (· repeat (first | exact List.Mem.head _ | assumption | apply List.Mem.tail))) | apply Pick.there))) | (refine Ent.trans (Ent.drop _ _) ?_))) ?_
    refine RH.val 0 rfl krX krX krX krX (Wanted.free rfl) (V.loadAgg (us := pv (p) (.slice ka p.log.length kc) (.slice wa wn wc) (.slice xa xn xc)) rfl ag26 rfl pickX rfl rfl) rfl ?_
    refine RH.val 1 rfl krX krX krX krX (Wanted.free rfl) (V.fieldAddr rfl rfl fo26_0) rfl ?_
    refine RH.val 2 rfl krX krX krX krX (Wanted.free rfl) (V.load rfl on3 rfl pickX rfl) rfl ?_
    refine RH.val 3 rfl krX krX krX krX (Wanted.free rfl) (V.fieldAddr rfl rfl fo50_1) rfl ?_
    refine RH.val 4 rfl krX krX krX krX (Wanted.free rfl) (V.load rfl on3 rfl pickX rfl) rfl ?_
    refine RH.val 5 rfl krX krX krX krX (Wanted.free rfl) (V.fieldAddr rfl rfl fo26_2) rfl ?_
    refine RH.val 6 rfl krX krX krX krX (Wanted.free rfl) (V.load rfl on3 rfl pickX rfl) rfl ?_
    refine RH.val 7 rfl krX krX krX krX (Wanted.free rfl) (V.move rfl rfl) rfl ?_
    refine RH.val 8 rfl krX krX krX krX (Wanted.free rfl) (V.buildS [(0, _), (1, _), (2, _), (3, _), (8, _)] rfl bs50 (by exact ⟨rfl, ⟨_, rfl, rfl⟩, ⟨rfl, ⟨_, rfl, rfl⟩, ⟨rfl, ⟨_, rfl, rfl⟩, ⟨rfl, ⟨_, rfl, rfl⟩, ⟨rfl, ⟨_, rfl, rfl⟩, trivial⟩⟩⟩⟩⟩) rfl) rfl ?_
    refine RH.two (i := 9) (j := 10) krX ?_ ?_
    ·
     refine RHone.eff rfl (Wanted.free rfl) (E.lit1 (mv ⟨2, p.id, m.frm, p.term, 0, 0, 0, [], false⟩ (.slice none 0 0)) rfl el35.slice ze50 rfl (by decide) (by decide) rfl rfl rfl) rfl ?_
     rintro _ _ ⟨b66, rfl, rfl⟩
     refine ⟨.inr entX, ?_⟩
     refine RH.one (i := 10) krX ?_
     refine RHone.eff rfl (Wanted.free rfl) (E.storeWhole rfl rfl rfl (by rfl) sz26 pickX pv_one (by rfl)) rfl ?_
     rintro _ _ rfl
     refine ⟨.inr entX, ?_⟩
     refine RH.val 11 rfl krX krX krX krX (Wanted.free rfl) (V.assign rfl rfl) rfl ?_
     refine RH.done krX ?_
     refine SG.ent (Buf.of_els (T := RMsg) (b := b66) (e := 50) (m := 1) (l := [_]) pickX rfl rfl (by decide) (fun z h H => Rep.rows.single (Rd.rep (T := RMsg) memX z h H))) ?_
     refine SG.publish (T := RMsg) (a := some ⟨b66, 0, none⟩) pickX ?_
     refine SG.retE (Ret.r2 Try.func75 rfl (.agg rfl ag26 pickX rfl rfl) (.tmp rfl)) ?_ ⟨_, _, _, rfl, rfl⟩
     exact entX
    ·
     refine RHone.eff rfl (Wanted.free rfl) (E.storeWhole rfl rfl rfl (by rfl) sz26 pickX pv_one (by rfl)) rfl ?_
     rintro _ _ rfl
     refine ⟨.inr entX, ?_⟩
     refine RH.one (i := 9) krX ?_
     refine RHone.eff rfl (Wanted.free rfl) (E.lit1 (mv ⟨2, p.id, m.frm, p.term, 0, 0, 0, [], false⟩ (.slice none 0 0)) rfl el35.slice ze50 rfl (by decide) (by decide) rfl rfl rfl) rfl ?_
     rintro _ _ ⟨b66, rfl, rfl⟩
     refine ⟨.inr entX, ?_⟩
     refine RH.val 11 rfl krX krX krX krX (Wanted.free rfl) (V.assign rfl rfl) rfl ?_
     refine RH.done krX ?_
     refine SG.ent (Buf.of_els (T := RMsg) (b := b66) (e := 50) (m := 1) (l := [_]) pickX rfl rfl (by decide) (fun z h H => Rep.rows.single (Rd.rep (T := RMsg) memX z h H))) ?_
     refine SG.publish (T := RMsg) (a := some ⟨b66, 0, none⟩) pickX ?_
     refine SG.retE (Ret.r2 Try.func75 rfl (.agg rfl ag26 pickX rfl rfl) (.tmp rfl)) ?_ ⟨_, _, _, rfl, rfl⟩
     exact entX

theorem set_get_or {l : List Bool} {f i : Nat} (h : i < l.length) : (l.set f true)[i]'(by rw [List.length_set]; exact h) = (l[i] || decide (i = f)) := by
  rw [List.getElem_set]
  by_cases e : f = i
  · rw [if_pos e, decide_eq_true e.symm, Bool.or_true]
  · rw [if_neg e, decide_eq_false (fun h => e h.symm), Bool.or_false]
theorem set_take {l : List Bool} {f i : Nat} {x : Bool} (h : i < l.length) (hx : (l[i] || decide (i = f)) = x) : (l.set f true).take (i + 1) = (l.set f true).take i ++ [x] := by
  rw [List.take_add_one, List.getElem?_eq_getElem (by rw [List.length_set]; exact h), set_get_or h, hx]; rfl
theorem cnt_snoc (l : List Bool) (x : Bool) : (l ++ [x]).countP (· == true) = l.countP (· == true) + (if x = true then 1 else 0) := by
  rw [List.countP_append]; cases x <;> rfl
set_option maxRecDepth 100000 in
set_option maxHeartbeats 1000000 in
theorem rvoted_ok {κ : World} {L : List Assn} {us ms : List Value} {p : Peer} {m : Msg} (hm : Rd RPeer us p ∈ L) (hmm : Rd RMsg ms m ∈ L) (hb : p.votes.length ≤ 1000) (hb2 : p.log.length ≤ 1000000) (h1 : 0 ≤ p.nodes) (h2 : p.nodes ≤ 1000) (h3 : 0 ≤ p.id) (hf0 : 0 ≤ m.frm) (hf1 : p.role = 1 → m.frm < p.votes.length) :
    Ctr Try.prog 76 #[.agg us.toArray, .agg ms.toArray] κ L (fun v M => ∃ us', v = .agg us'.toArray ∧ M = Rd RPeer us' (if m.term ≠ p.term ∨ m.yes = false then p else votedP p m) :: L) := by
 refine Ctr.enter (vs := [.agg us.toArray, .agg ms.toArray]) (m := 60) Try.func76 rfl rfl rfl ?_
 refine SG.openPeer (Pick.rd hm) fun ka kn kc wa wn wc xa xn xc hus => ?_
 subst hus
 refine SG.openMsg (us := ms) (m := m) (Pick.rd (T := RMsg) memX) fun sa sn sc hms => ?_
 subst hms
 refine SG.sl (T := RSlot) (a := ka) (l := p.log) memX fun hkn _ _ => ?_
 subst hkn
 refine SG.sl (T := RB) (a := wa) (l := p.votes) memX fun hwn _ _ => ?_
 subst hwn
 refine SG.seq ?_
 refine SG.region ?_
 refine RL.eff (Wanted.free rfl) (E.box _ rfl rfl rfl) rfl ?_
 rintro _ _ ⟨b2, rfl, rfl⟩
 refine RL.eff (Wanted.free rfl) (E.box _ rfl rfl rfl) rfl ?_
 rintro _ _ ⟨b3, rfl, rfl⟩
 refine RL.eff (Wanted.free rfl) (E.alloc rfl ze26) rfl ?_
 rintro _ _ ⟨b4, rfl, rfl⟩
 refine RL.nil ?_
 refine SG.seq ?_
 refine SG.seq ?_
 refine SG.region ?_
 refine RL.val (Wanted.free rfl) (V.fieldAddr rfl rfl fo26_4) rfl ?_
 refine RL.val (Wanted.free rfl) (V.load rfl on3 rfl pickX rfl) rfl ?_
 refine RL.cmp (Wanted.free rfl) (V.bin rfl rfl rfl B.neq) rfl (fun h6 => ?_) (fun h6 => ?_)
 ·
  refine RL.val (Wanted.free rfl) (V.move rfl rfl) rfl ?_
  refine RL.skip (Wanted.no rfl rfl rfl rfl rfl) rfl ?_
  refine RL.skip (Wanted.no rfl rfl rfl rfl rfl) rfl ?_
  refine RL.skip (Wanted.no rfl rfl rfl rfl rfl) rfl ?_
  refine RL.skip (Wanted.no rfl rfl rfl rfl rfl) rfl ?_
  refine RL.skip (Wanted.no rfl rfl rfl rfl rfl) rfl ?_
  refine RL.val (Wanted.free rfl) (V.pick_true rfl rfl rfl) rfl ?_
  refine RL.val (Wanted.free rfl) (V.move rfl rfl) rfl ?_
  refine RL.skip (Wanted.no rfl rfl rfl rfl rfl) rfl ?_
  refine RL.skip (Wanted.no rfl rfl rfl rfl rfl) rfl ?_
  refine RL.skip (Wanted.no rfl rfl rfl rfl rfl) rfl ?_
  refine RL.val (Wanted.free rfl) (V.pick_true rfl rfl rfl) rfl ?_
  refine RL.nil ?_
  refine SG.cond_true rfl ?_
  refine SG.seq ?_
  refine SG.region ?_
  refine RL.val (Wanted.free rfl) (V.loadAgg (us := pv p (.slice ka p.log.length kc) (.slice wa p.votes.length wc) (.slice xa xn xc)) rfl ag26 rfl pickX rfl rfl) rfl ?_
  refine RL.eff (Wanted.free rfl) (E.storeWhole rfl rfl rfl (by rfl) sz26 pickX pv_one (by rfl)) rfl ?_
  rintro _ _ rfl
  refine RL.nil ?_
  rw [show (if m.term ≠ p.term ∨ m.yes = false then p else votedP p m) = p from by
   split
   ·
    rfl
   ·
    exact if_pos (by omega)]
  refine SG.ent (Pick.rd (T := RPeer) (cs := pv p (.slice ka p.log.length kc) (.slice wa p.votes.length wc) (.slice xa xn xc)) (y := p) memX) ?_
  refine SG.retE (Ret.r1 Try.func76 rfl (.agg rfl ag26 pickX rfl rfl)) ?_ ⟨_, rfl, rfl⟩
  exact entX
 ·
  refine RL.val (Wanted.free rfl) (V.move rfl rfl) rfl ?_
  refine RL.val (Wanted.yes rfl rfl rfl rfl) (V.fieldAddr rfl rfl fo50_3) rfl ?_
  refine RL.val (Wanted.yes rfl rfl rfl rfl) (V.load rfl on3 rfl pickX rfl) rfl ?_
  refine RL.val (Wanted.yes rfl rfl rfl rfl) (V.fieldAddr rfl rfl fo26_2) rfl ?_
  refine RL.val (Wanted.yes rfl rfl rfl rfl) (V.load rfl on3 rfl pickX rfl) rfl ?_
  refine RL.cmp (Wanted.yes rfl rfl rfl rfl) (V.bin rfl rfl rfl B.neq) rfl (fun h16 => ?_) (fun h16 => ?_)
  ·
   refine RL.val (Wanted.free rfl) (V.pick_false rfl rfl rfl) rfl ?_
   refine RL.val (Wanted.free rfl) (V.move rfl rfl) rfl ?_
   refine RL.skip (Wanted.no rfl rfl rfl rfl rfl) rfl ?_
   refine RL.skip (Wanted.no rfl rfl rfl rfl rfl) rfl ?_
   refine RL.skip (Wanted.no rfl rfl rfl rfl rfl) rfl ?_
   refine RL.val (Wanted.free rfl) (V.pick_true rfl rfl rfl) rfl ?_
   refine RL.nil ?_
   refine SG.cond_true rfl ?_
   refine SG.seq ?_
   refine SG.region ?_
   refine RL.val (Wanted.free rfl) (V.loadAgg (us := pv p (.slice ka p.log.length kc) (.slice wa p.votes.length wc) (.slice xa xn xc)) rfl ag26 rfl pickX rfl rfl) rfl ?_
   refine RL.eff (Wanted.free rfl) (E.storeWhole rfl rfl rfl (by rfl) sz26 pickX pv_one (by rfl)) rfl ?_
   rintro _ _ rfl
   refine RL.nil ?_
   rw [if_pos (.inl (by omega))]
   refine SG.ent (Pick.rd (T := RPeer) (cs := pv p (.slice ka p.log.length kc) (.slice wa p.votes.length wc) (.slice xa xn xc)) (y := p) memX) ?_
   refine SG.retE (Ret.r1 Try.func76 rfl (.agg rfl ag26 pickX rfl rfl)) ?_ ⟨_, rfl, rfl⟩
   exact entX
  ·
   refine RL.val (Wanted.free rfl) (V.pick_false rfl rfl rfl) rfl ?_
   refine RL.val (Wanted.free rfl) (V.move rfl rfl) rfl ?_
   refine RL.val (Wanted.yes rfl rfl rfl rfl) (V.fieldAddr rfl rfl fo50_8) rfl ?_
   refine RL.val (Wanted.yes rfl rfl rfl rfl) (V.load rfl on4 rfl pickX rfl) rfl ?_
   refine RL.val (Wanted.yes rfl rfl rfl rfl) (V.not rfl rfl) rfl ?_
   refine RL.val (Wanted.free rfl) (V.pick_false rfl rfl rfl) rfl ?_
   refine RL.nil ?_
   refine SG.cond rfl (fun h23 => ?_) (fun h23 => ?_)
   ·
    have hyf : m.yes = false := by simpa using h23
    refine SG.seq ?_
    refine SG.region ?_
    refine RL.val (Wanted.free rfl) (V.loadAgg (us := pv p (.slice ka p.log.length kc) (.slice wa p.votes.length wc) (.slice xa xn xc)) rfl ag26 rfl pickX rfl rfl) rfl ?_
    refine RL.eff (Wanted.free rfl) (E.storeWhole rfl rfl rfl (by rfl) sz26 pickX pv_one (by rfl)) rfl ?_
    rintro _ _ rfl
    refine RL.nil ?_
    rw [if_pos (.inr hyf)]
    refine SG.ent (Pick.rd (T := RPeer) (cs := pv p (.slice ka p.log.length kc) (.slice wa p.votes.length wc) (.slice xa xn xc)) (y := p) memX) ?_
    refine SG.retE (Ret.r1 Try.func76 rfl (.agg rfl ag26 pickX rfl rfl)) ?_ ⟨_, rfl, rfl⟩
    exact entX
   ·
    have hyt : m.yes = true := by simpa using h23
    refine SG.skip ?_
    refine SG.seq ?_
    have hfl := hf1 (by omega)
    refine SG.ent (Buf.nil (T := RB) (e := 4)) ?_
    refine SG.region ?_
    refine RL.val (Wanted.free rfl) (V.assign rfl rfl) rfl ?_
    refine RL.nil ?_
    refine SG.seq ?_
    refine SG.region ?_
    refine RL.val (Wanted.free rfl) (V.assign rfl rfl) rfl ?_
    refine RL.nil ?_
    refine SG.seq ?_
    refine SG.seq ?_
    refine SG.region ?_
    refine RL.val (Wanted.free rfl) (V.assign rfl rfl) rfl ?_
    refine RL.nil ?_
    refine SG.block ?_
    refine SG.weaken (SG.loop2 (fun m0 al M => ∃ (i : Nat) (a5 : Option Addr) (c5 : Nat), i ≤ p.votes.length ∧ m0 = p.votes.length - i ∧ al = [(2, ptr b2 0), (3, ptr b3 0), (4, ptr b4 0), (5, .slice a5 i c5), (6, vI (((p.votes.set m.frm.toNat true).take i).countP (· == true) : Nat)), (7, vI i)] ∧ M = Buf RB 4 a5 i c5 ((p.votes.set m.frm.toNat true).take i) :: Blk b2 26 (pv p (.slice ka p.log.length kc) (.slice wa p.votes.length wc) (.slice xa xn xc)) :: Blk b3 50 (mv m (.slice sa sn sc)) :: Blk b4 26 [.int .i64 0, .int .i64 0, .int .i64 0, .int .i64 0, .int .i64 0, .int .i64 0, .slice none 0 0, .slice none 0 0, .slice none 0 0] :: Sl RSlot ka p.log.length kc p.log :: Sl RB wa p.votes.length wc p.votes :: Sl RI xa xn xc p.mtch :: Sl RSlot sa sn sc m.slots :: L) (m0 := _) ⟨0, none, 0, by omega, rfl, rfl, rfl⟩ ?_) ?_ ?_
    rotate_left
    ·
     repeat (first | exact EnvLe.nil _ | refine EnvLe.cons rfl ?_)
    ·
     exact entX
    rintro _ _ _ ⟨i, a5, c5, hi, rfl, rfl, rfl⟩ ih0
    refine SG.seq ?_
    refine SG.seq ?_
    refine SG.region ?_
    refine RL.val (Wanted.free rfl) (V.move rfl rfl) rfl ?_
    refine RL.val (Wanted.free rfl) (V.fieldAddr rfl rfl fo26_7) rfl ?_
    refine RL.val (Wanted.free rfl) (V.load rfl on24 rfl pickX rfl) rfl ?_
    refine RL.val (Wanted.free rfl) (V.len rfl rfl el24.under rfl) rfl ?_
    refine RL.cmp (Wanted.free rfl) (V.bin rfl rfl rfl B.lss) rfl (fun h33 => ?_) (fun h33 => ?_)
    ·
     refine RL.nil ?_
     refine SG.cond_true rfl ?_
     refine SG.skip ?_
     refine SG.seq ?_
     refine SG.block ?_
     refine SG.seq ?_
     have hil : i < p.votes.length := by omega
     have hcl : ((p.votes.set m.frm.toNat true).take i).countP (· == true) ≤ i := Nat.le_trans List.countP_le_length (by rw [List.length_take]; omega)
     refine SG.region ?_
     refine RL.val (Wanted.free rfl) (V.fieldAddr rfl rfl fo26_7) rfl ?_
     refine RL.val (Wanted.free rfl) (V.load rfl on24 rfl pickX rfl) rfl ?_
     refine RL.val (Wanted.free rfl) (V.move rfl rfl) rfl ?_
     refine RL.val (Wanted.free rfl) (V.indexSl (T := RB) (a := wa) (l := p.votes) (j := i) rfl el24.slice rfl rfl memX rfl hil) rfl ?_
     refine RL.val (Wanted.free rfl) (V.loadSc (l := p.votes) (j := i) rfl on4 rfl (show Sl RB wa p.votes.length wc p.votes ∈ _ from memX) (List.getElem?_eq_getElem hil)) rfl ?_
     refine RL.val (Wanted.free rfl) (V.move rfl rfl) rfl ?_
     refine RL.split 37 rfl (fun g40 => ?_) (fun g40 => ?_)
     ·
      refine RL.skip (Wanted.no rfl rfl rfl rfl rfl) rfl ?_
      refine RL.skip (Wanted.no rfl rfl rfl rfl rfl) rfl ?_
      refine RL.skip (Wanted.no rfl rfl rfl rfl rfl) rfl ?_
      refine RL.skip (Wanted.no rfl rfl rfl rfl rfl) rfl ?_
      refine RL.val (Wanted.free rfl) (V.pick_true rfl rfl rfl) rfl ?_
      refine RL.val (Wanted.free rfl) (V.assign rfl rfl) rfl ?_
      refine RL.nil ?_
      refine SG.seq ?_
      refine SG.region ?_
      refine RL.val (Wanted.free rfl) (V.move rfl rfl) rfl ?_
      refine RL.val (Wanted.free rfl) (V.move rfl rfl) rfl ?_
      refine RL.eff (Wanted.free rfl) (E.lit1 [vB true] rfl el24.slice ze4 rfl (by decide) (by decide) rfl rfl rfl) rfl ?_
      rintro _ _ ⟨b45, rfl, rfl⟩
      refine RL.eff (Wanted.free rfl) (E.append (T := RB) rfl rfl rfl el24 el24.noInt rfl rfl pickX (Src.lit (x := true) pickX trivial) (by first | omega | (simp; omega)) (by first | omega | (simp; omega))) rfl ?_
      intro _ _ hK45
      try rw [List.nil_append] at hK45
      try rw [Nat.zero_add] at hK45
      obtain ⟨a46, c46, rfl, rfl⟩ := hK45
      refine RL.val (Wanted.free rfl) (V.assign rfl rfl) rfl ?_
      refine RL.nil ?_
      refine SG.seq ?_
      refine SG.region ?_
      refine RL.val (Wanted.free rfl) (V.move rfl rfl) rfl ?_
      refine RL.nil ?_
      refine SG.cond_true rfl ?_
      refine SG.region ?_
      refine RL.val (Wanted.free rfl) (V.move rfl rfl) rfl ?_
      refine RL.val (Wanted.free rfl) (V.bin rfl rfl rfl (B.addI (by omega) (by omega))) rfl ?_
      refine RL.val (Wanted.free rfl) (V.assign rfl rfl) rfl ?_
      refine RL.nil ?_
      refine SG.inBlock ?_
      refine SG.region ?_
      refine RL.val (Wanted.free rfl) (V.move rfl rfl) rfl ?_
      refine RL.val (Wanted.free rfl) (V.bin rfl rfl rfl (B.addI (by omega) (by omega))) rfl ?_
      refine RL.val (Wanted.free rfl) (V.assign rfl rfl) rfl ?_
      refine RL.nil ?_
      have hst := set_take (f := m.frm.toNat) hil (show (p.votes[i]'hil || decide (i = m.frm.toNat)) = true by first | (rw [show p.votes[i]'hil = true from by assumption]; rfl) | (rw [decide_eq_true (by omega), Bool.or_true]))
      have hct := cnt_snoc ((p.votes.set m.frm.toNat true).take i) true
      rw [if_pos rfl] at hct
      refine SG.weaken (ih0 _ _ _ ?_ ⟨i + 1, a46, c46, by omega, rfl, rfl, rfl⟩) ?_ ?_
      ·
       omega
      ·
       rw [hst, hct]
       repeat (first | exact EnvLe.nil _ | refine EnvLe.cons (by first | rfl | (rw [Int.natCast_add]; rfl)) ?_)
      ·
       rw [hst]
       exact entX
     ·
      refine RL.val (Wanted.yes rfl rfl rfl rfl) (V.move rfl rfl) rfl ?_
      refine RL.val (Wanted.yes rfl rfl rfl rfl) (V.fieldAddr rfl rfl fo50_1) rfl ?_
      refine RL.val (Wanted.yes rfl rfl rfl rfl) (V.load rfl on3 rfl pickX rfl) rfl ?_
      refine RL.cmp (Wanted.yes rfl rfl rfl rfl) (V.bin rfl rfl rfl B.eql) rfl (fun h57 => ?_) (fun h57 => ?_)
      ·
       refine RL.val (Wanted.free rfl) (V.pick_false rfl rfl rfl) rfl ?_
       refine RL.val (Wanted.free rfl) (V.assign rfl rfl) rfl ?_
       refine RL.nil ?_
       refine SG.seq ?_
       refine SG.region ?_
       refine RL.val (Wanted.free rfl) (V.move rfl rfl) rfl ?_
       refine RL.val (Wanted.free rfl) (V.move rfl rfl) rfl ?_
       refine RL.eff (Wanted.free rfl) (E.lit1 [vB true] rfl el24.slice ze4 rfl (by decide) (by decide) rfl rfl rfl) rfl ?_
       rintro _ _ ⟨b45, rfl, rfl⟩
       refine RL.eff (Wanted.free rfl) (E.append (T := RB) rfl rfl rfl el24 el24.noInt rfl rfl pickX (Src.lit (x := true) pickX trivial) (by first | omega | (simp; omega)) (by first | omega | (simp; omega))) rfl ?_
       intro _ _ hK62
       try rw [List.nil_append] at hK62
       try rw [Nat.zero_add] at hK62
       obtain ⟨a46, c46, rfl, rfl⟩ := hK62
       refine RL.val (Wanted.free rfl) (V.assign rfl rfl) rfl ?_
       refine RL.nil ?_
       refine SG.seq ?_
       refine SG.region ?_
       refine RL.val (Wanted.free rfl) (V.move rfl rfl) rfl ?_
       refine RL.nil ?_
       refine SG.cond_true rfl ?_
       refine SG.region ?_
       refine RL.val (Wanted.free rfl) (V.move rfl rfl) rfl ?_
       refine RL.val (Wanted.free rfl) (V.bin rfl rfl rfl (B.addI (by omega) (by omega))) rfl ?_
       refine RL.val (Wanted.free rfl) (V.assign rfl rfl) rfl ?_
       refine RL.nil ?_
       refine SG.inBlock ?_
       refine SG.region ?_
       refine RL.val (Wanted.free rfl) (V.move rfl rfl) rfl ?_
       refine RL.val (Wanted.free rfl) (V.bin rfl rfl rfl (B.addI (by omega) (by omega))) rfl ?_
       refine RL.val (Wanted.free rfl) (V.assign rfl rfl) rfl ?_
       refine RL.nil ?_
       have hst := set_take (f := m.frm.toNat) hil (show (p.votes[i]'hil || decide (i = m.frm.toNat)) = true by first | (rw [show p.votes[i]'hil = true from by assumption]; rfl) | (rw [decide_eq_true (by omega), Bool.or_true]))
       have hct := cnt_snoc ((p.votes.set m.frm.toNat true).take i) true
       rw [if_pos rfl] at hct
       refine SG.weaken (ih0 _ _ _ ?_ ⟨i + 1, a46, c46, by omega, rfl, rfl, rfl⟩) ?_ ?_
       ·
        omega
       ·
        rw [hst, hct]
        repeat (first | exact EnvLe.nil _ | refine EnvLe.cons (by first | rfl | (rw [Int.natCast_add]; rfl)) ?_)
       ·
        rw [hst]
        exact entX
      ·
       refine RL.val (Wanted.free rfl) (V.pick_false rfl rfl rfl) rfl ?_
       refine RL.val (Wanted.free rfl) (V.assign rfl rfl) rfl ?_
       refine RL.nil ?_
       refine SG.seq ?_
       refine SG.region ?_
       refine RL.val (Wanted.free rfl) (V.move rfl rfl) rfl ?_
       refine RL.val (Wanted.free rfl) (V.move rfl rfl) rfl ?_
       refine RL.eff (Wanted.free rfl) (E.lit1 [vB false] rfl el24.slice ze4 rfl (by decide) (by decide) rfl rfl rfl) rfl ?_
       rintro _ _ ⟨b45, rfl, rfl⟩
       refine RL.eff (Wanted.free rfl) (E.append (T := RB) rfl rfl rfl el24 el24.noInt rfl rfl pickX (Src.lit (x := false) pickX trivial) (by first | omega | (simp; omega)) (by first | omega | (simp; omega))) rfl ?_
       intro _ _ hK75
       try rw [List.nil_append] at hK75
       try rw [Nat.zero_add] at hK75
       obtain ⟨a46, c46, rfl, rfl⟩ := hK75
       refine RL.val (Wanted.free rfl) (V.assign rfl rfl) rfl ?_
       refine RL.nil ?_
       refine SG.seq ?_
       refine SG.region ?_
       refine RL.val (Wanted.free rfl) (V.move rfl rfl) rfl ?_
       refine RL.nil ?_
       refine SG.cond_false rfl ?_
       refine SG.skip ?_
       refine SG.inBlock ?_
       refine SG.region ?_
       refine RL.val (Wanted.free rfl) (V.move rfl rfl) rfl ?_
       refine RL.val (Wanted.free rfl) (V.bin rfl rfl rfl (B.addI (by omega) (by omega))) rfl ?_
       refine RL.val (Wanted.free rfl) (V.assign rfl rfl) rfl ?_
       refine RL.nil ?_
       have hst := set_take (f := m.frm.toNat) hil (show (p.votes[i]'hil || decide (i = m.frm.toNat)) = false by rw [show p.votes[i]'hil = false from by assumption, decide_eq_false (by omega)]; rfl)
       have hct := cnt_snoc ((p.votes.set m.frm.toNat true).take i) false
       rw [if_neg (by decide)] at hct
       refine SG.weaken (ih0 _ _ _ ?_ ⟨i + 1, a46, c46, by omega, rfl, rfl, rfl⟩) ?_ ?_
       ·
        omega
       ·
        rw [hst, hct]
        repeat (first | exact EnvLe.nil _ | refine EnvLe.cons (by first | rfl | (rw [Int.natCast_add]; rfl)) ?_)
       ·
        rw [hst]
        exact entX
    ·
     refine RL.nil ?_
     refine SG.cond_false rfl ?_
     refine SG.exit rfl ?_
     refine SG.seq ?_
     obtain rfl : i = p.votes.length := by omega
     rw [show (p.votes.set m.frm.toNat true).take p.votes.length = (p.votes.set m.frm.toNat true) from List.take_of_length_le (by rw [List.length_set]; omega)]
     have hcl : (p.votes.set m.frm.toNat true).countP (· == true) ≤ p.votes.length := Nat.le_trans List.countP_le_length (by rw [List.length_set]; omega)
     refine SG.publish (T := RB) (a := a5) pickX ?_
     refine SG.region ?_
     refine RL.val (Wanted.free rfl) (V.move rfl rfl) rfl ?_
     refine RL.val (Wanted.free rfl) (V.fieldAddr rfl rfl fo26_7) rfl ?_
     refine RL.eff (Wanted.free rfl) (E.store1 rfl rfl rfl rfl rfl sz24 pickX rfl) rfl ?_
     rintro _ _ rfl
     refine RL.nil ?_
     refine SG.seq ?_
     refine SG.seq ?_
     refine SG.ent (RPeer.mk (p := addVote p m.frm) (la := ka) (ln := p.log.length) (lc := kc) (va := a5) (vn := p.votes.length) (vc := c5) (ma := xa) (mn := xn) (mc := xc) memX memX memX) ?_
     refine SG.region ?_
     refine RL.val (Wanted.free rfl) (V.move rfl rfl) rfl ?_
     refine RL.val (Wanted.free rfl) (V.bin rfl rfl rfl (B.mulI (by omega) (by omega))) rfl ?_
     refine RL.val (Wanted.free rfl) (V.fieldAddr rfl rfl fo26_1) rfl ?_
     refine RL.val (Wanted.free rfl) (V.load rfl on3 rfl pickX rfl) rfl ?_
     refine RL.cmp (Wanted.free rfl) (V.bin rfl rfl rfl B.gtr) rfl (fun h88 => ?_) (fun h88 => ?_)
     ·
      have hvp : votedP p m = leadP (addVote p m.frm) := by rw [votedP, if_neg (by omega), if_pos (by show p.nodes < 2 * ((p.votes.set m.frm.toNat true).countP (· == true) : Int); omega)]
      refine RL.nil ?_
      refine SG.cond_true rfl ?_
      refine SG.seq ?_
      refine SG.region ?_
      refine RL.val (Wanted.free rfl) (V.loadAgg (us := pv (addVote p m.frm) (.slice ka p.log.length kc) (.slice a5 p.votes.length c5) (.slice xa xn xc)) rfl ag26 rfl pickX rfl rfl) rfl ?_
      refine RL.eff (Wanted.free rfl) (E.call rfl go63 rfl (rlead_ok (p := addVote p m.frm) memX (by show 0 ≤ p.nodes; omega) (by show p.nodes ≤ 1000; omega) h3 (by show p.log.length ≤ _; omega))) rfl ?_
      rintro _ _ ⟨u58, rfl, rfl⟩
      refine RL.openPeer (us := u58) (Pick.rd (T := RPeer) memX) fun ja jn jc ga gn gc ha hn hc hus => ?_
      subst hus
      refine RL.eff (Wanted.free rfl) (E.storeWhole rfl rfl rfl (by rfl) sz26 pickX pv_one (by rfl)) rfl ?_
      rintro _ _ rfl
      refine RL.nil ?_
      rw [if_neg (by rintro (h | h); (· omega); (· rw [hyt] at h; cases h)), hvp]
      refine SG.retE (Ret.r1 Try.func76 rfl (.agg rfl ag26 pickX rfl rfl)) ?_ ⟨_, rfl, rfl⟩
      exact entX
     ·
      have hvp : votedP p m = addVote p m.frm := by rw [votedP, if_neg (by omega), if_neg (by show ¬ p.nodes < 2 * ((p.votes.set m.frm.toNat true).countP (· == true) : Int); omega)]
      refine RL.nil ?_
      refine SG.cond_false rfl ?_
      refine SG.skip ?_
      refine SG.seq ?_
      refine SG.region ?_
      refine RL.val (Wanted.free rfl) (V.loadAgg (us := pv (addVote p m.frm) (.slice ka p.log.length kc) (.slice a5 p.votes.length c5) (.slice xa xn xc)) rfl ag26 rfl pickX rfl rfl) rfl ?_
      refine RL.eff (Wanted.free rfl) (E.storeWhole rfl rfl rfl (by rfl) sz26 pickX pv_one (by rfl)) rfl ?_
      rintro _ _ rfl
      refine RL.nil ?_
      rw [if_neg (by rintro (h | h); (· omega); (· rw [hyt] at h; cases h)), hvp]
      refine SG.retE (Ret.r1 Try.func76 rfl (.agg rfl ag26 pickX rfl rfl)) ?_ ⟨_, rfl, rfl⟩
      exact entX

end Go.Proofs.Ytilcnglcflohoaa
