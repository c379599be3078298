/- The reference: slots that are stored. -/
import Derived.Test.YtilcnglcflohoaaRefd
namespace Go.Proofs.Ytilcnglcflohoaa
open Go.Wk Go.Rp

set_option maxRecDepth 100000 in
set_option maxHeartbeats 2000000 in
theorem rstore_ok {κ : World} {L : List Assn} {us ms : List Value} {p : Peer} {m : Msg} (hm : Rd RPeer us p ∈ L) (hmm : Rd RMsg ms m ∈ L) (hb : p.log.length ≤ 900000) (hx0 : 0 ≤ m.index) (hx1 : m.index ≤ 1000000) (hs1 : m.slots.length ≤ 1000000) :
    Ctr Try.prog 77 #[.agg us.toArray, .agg ms.toArray] κ L (fun v M => ∃ us' a c, v = .tuple #[.agg us'.toArray, .slice a 1 c] ∧ M = Rd RPeer us' (Rp.store p m).1 :: Sl RMsg a 1 c (Rp.store p m).2 :: L) := by
 refine Ctr.enter (vs := [.agg us.toArray, .agg ms.toArray]) (m := 127) Try.func77 rfl rfl rfl ?_
 refine SG.openPeer (Pick.rd hm) fun ka kn kc wa wn wc xa xn xc hus => ?_
 subst hus
 refine SG.openMsg (us := ms) (m := m) (Pick.rd (T := RMsg) memX) fun sa sn sc hms => ?_
 subst hms
 refine SG.sl (T := RSlot) (a := ka) (l := p.log) memX fun hkn _ _ => ?_
 subst hkn
 refine SG.sl (T := RSlot) (a := sa) (l := m.slots) memX fun hsn _ _ => ?_
 subst hsn
 refine SG.ent (Sl.nil (T := RSlot)) ?_
 refine SG.ent (Sl.nil (T := RB)) ?_
 refine SG.ent (RMsg.mk (m := noM p m) (a := none) (n' := 0) (c := 0) memX) ?_
 refine SG.seq ?_
 refine SG.region ?_
 refine RL.eff (Wanted.free rfl) (E.box _ rfl rfl rfl) rfl ?_
 rintro _ _ ⟨b2, rfl, rfl⟩
 refine RL.eff (Wanted.free rfl) (E.box _ rfl rfl rfl) rfl ?_
 rintro _ _ ⟨b3, rfl, rfl⟩
 refine RL.eff (Wanted.free rfl) (E.alloc rfl ze26) rfl ?_
 rintro _ _ ⟨b4, rfl, rfl⟩
 refine RL.val (Wanted.free rfl) (V.assign rfl rfl) rfl ?_
 refine RL.nil ?_
 refine SG.seq ?_
 refine SG.region ?_
 refine RL.val (Wanted.free rfl) (V.fieldAddr rfl rfl fo26_0) rfl ?_
 refine RL.val (Wanted.free rfl) (V.load rfl on3 rfl pickX rfl) rfl ?_
 refine RL.val (Wanted.free rfl) (V.fieldAddr rfl rfl fo50_1) rfl ?_
 refine RL.val (Wanted.free rfl) (V.load rfl on3 rfl pickX rfl) rfl ?_
 refine RL.val (Wanted.free rfl) (V.fieldAddr rfl rfl fo26_2) rfl ?_
 refine RL.val (Wanted.free rfl) (V.load rfl on3 rfl pickX rfl) rfl ?_
 refine RL.val (Wanted.free rfl) (V.buildS [(0, _), (1, _), (2, _), (3, _)] rfl bs50 (by exact ⟨rfl, ⟨_, rfl, rfl⟩, ⟨rfl, ⟨_, rfl, rfl⟩, ⟨rfl, ⟨_, rfl, rfl⟩, ⟨rfl, ⟨_, rfl, rfl⟩, trivial⟩⟩⟩⟩) rfl) rfl ?_
 refine RL.eff (Wanted.free rfl) (E.alloc rfl ze50) rfl ?_
 rintro _ _ ⟨b6, rfl, rfl⟩
 refine RL.eff (Wanted.free rfl) (E.storeWhole rfl rfl rfl (by rfl) sz50 pickX (by first | (simp [Value.oneCell']; done) | (simp [setAt, Value.oneCell']; done)) (by rfl)) rfl ?_
 rintro _ _ rfl
 refine RL.nil ?_
 refine SG.seq ?_
 refine SG.seq ?_
 refine SG.region ?_
 refine RL.val (Wanted.free rfl) (V.fieldAddr rfl rfl fo50_3) rfl ?_
 refine RL.val (Wanted.free rfl) (V.load rfl on3 rfl pickX rfl) rfl ?_
 refine RL.val (Wanted.free rfl) (V.fieldAddr rfl rfl fo26_2) rfl ?_
 refine RL.val (Wanted.free rfl) (V.load rfl on3 rfl pickX rfl) rfl ?_
 refine RL.cmp (Wanted.free rfl) (V.bin rfl rfl rfl B.lss) rfl (fun h18 => ?_) (fun h18 => ?_)
 ·
  refine RL.val (Wanted.free rfl) (V.move rfl rfl) rfl ?_
  refine RL.skip (Wanted.no rfl rfl rfl rfl rfl) rfl ?_
  refine RL.skip (Wanted.no rfl rfl rfl rfl rfl) rfl ?_
  refine RL.skip (Wanted.no rfl rfl rfl rfl rfl) rfl ?_
  refine RL.val (Wanted.free rfl) (V.pick_true rfl rfl rfl) rfl ?_
  refine RL.nil ?_
  refine SG.cond_true rfl ?_
  refine SG.seq ?_
  have hst : Rp.store p m = (p, [noM p m]) := if_pos (by omega)
  rw [hst]
  refine SG.ent (Pick.rd (T := RPeer) (cs := pv p (.slice ka p.log.length kc) (.slice wa wn wc) (.slice xa xn xc)) (y := p) memX) ?_
  refine SG.drawN 5 5 (Blk b2 26 (pv p (.slice ka p.log.length kc) (.slice wa wn wc) (.slice xa xn xc)) :: Blk b6 50 (mv (noM p m) (.slice none 0 0)) :: Rd RMsg (mv (noM p m) (.slice none 0 0)) (noM p m) :: Rd RPeer (pv p (.slice ka p.log.length kc) (.slice wa wn wc) (.slice xa xn xc)) p :: L) wide rfl rfl (by repeat (first | exact Ent.refl _ | (apply Ent.cons; (· repeat (first | exact Pick.here | (refine Pick.sl ?_; (· repeat (first | exact List.Mem.head _ | assumption | apply List.Mem.tail))) | apply Pick.there))) | (refine Ent.trans (Ent.drop _ _) ?_))) ?_
  refine RH.val 0 rfl krX krX krX krX (Wanted.free rfl) (V.loadAgg (us := pv p (.slice ka p.log.length kc) (.slice wa wn wc) (.slice xa xn xc)) rfl ag26 rfl pickX rfl rfl) rfl ?_
  refine RH.val 1 rfl krX krX krX krX (Wanted.free rfl) (V.loadAgg (us := mv (noM p m) (.slice none 0 0)) rfl ag50 rfl pickX rfl rfl) rfl ?_
  refine RH.two (i := 2) (j := 3) krX ?_ ?_
  ·
   refine RHone.eff rfl (Wanted.free rfl) (E.lit1 (mv (noM p m) (.slice none 0 0)) rfl el35.slice ze50 rfl (by decide) (by decide) rfl rfl rfl) rfl ?_
   rintro _ _ ⟨b99, rfl, rfl⟩
   refine ⟨.inr entX, ?_⟩
   refine RH.one (i := 3) krX ?_
   refine RHone.eff rfl (Wanted.free rfl) (E.storeWhole rfl rfl rfl (by rfl) sz26 pickX pv_one (by rfl)) rfl ?_
   rintro _ _ rfl
   refine ⟨.inr entX, ?_⟩
   refine RH.val 4 rfl krX krX krX krX (Wanted.free rfl) (V.assign rfl rfl) rfl ?_
   refine RH.done krX ?_
   refine SG.ent (Buf.of_els (T := RMsg) (b := b99) (e := 50) (m := 1) (l := [_]) pickX rfl rfl (by decide) (fun z h H => Rep.rows.single (Rd.rep (T := RMsg) memX z h H))) ?_
   refine SG.publish (T := RMsg) (a := some ⟨b99, 0, none⟩) pickX ?_
   refine SG.retE (Ret.r2 Try.func77 rfl (.agg rfl ag26 pickX rfl rfl) (.tmp rfl)) ?_ ⟨_, _, _, rfl, rfl⟩
   exact entX
  ·
   refine RHone.eff rfl (Wanted.free rfl) (E.storeWhole rfl rfl rfl (by rfl) sz26 pickX pv_one (by rfl)) rfl ?_
   rintro _ _ rfl
   refine ⟨.inr entX, ?_⟩
   refine RH.one (i := 2) krX ?_
   refine RHone.eff rfl (Wanted.free rfl) (E.lit1 (mv (noM p m) (.slice none 0 0)) rfl el35.slice ze50 rfl (by decide) (by decide) rfl rfl rfl) rfl ?_
   rintro _ _ ⟨b99, rfl, rfl⟩
   refine ⟨.inr entX, ?_⟩
   refine RH.val 4 rfl krX krX krX krX (Wanted.free rfl) (V.assign rfl rfl) rfl ?_
   refine RH.done krX ?_
   refine SG.ent (Buf.of_els (T := RMsg) (b := b99) (e := 50) (m := 1) (l := [_]) pickX rfl rfl (by decide) (fun z h H => Rep.rows.single (Rd.rep (T := RMsg) memX z h H))) ?_
   refine SG.publish (T := RMsg) (a := some ⟨b99, 0, none⟩) pickX ?_
   refine SG.retE (Ret.r2 Try.func77 rfl (.agg rfl ag26 pickX rfl rfl) (.tmp rfl)) ?_ ⟨_, _, _, rfl, rfl⟩
   exact entX
 ·
  refine RL.val (Wanted.free rfl) (V.move rfl rfl) rfl ?_
  refine RL.val (Wanted.yes rfl rfl rfl rfl) (V.fieldAddr rfl rfl fo26_4) rfl ?_
  refine RL.val (Wanted.yes rfl rfl rfl rfl) (V.load rfl on3 rfl pickX rfl) rfl ?_
  refine RL.cmp (Wanted.yes rfl rfl rfl rfl) (V.bin rfl rfl rfl B.eql) rfl (fun h31 => ?_) (fun h31 => ?_)
  ·
   refine RL.val (Wanted.free rfl) (V.pick_false rfl rfl rfl) rfl ?_
   refine RL.nil ?_
   refine SG.cond_true rfl ?_
   refine SG.seq ?_
   have hst : Rp.store p m = (p, [noM p m]) := if_pos (by omega)
   rw [hst]
   refine SG.ent (Pick.rd (T := RPeer) (cs := pv p (.slice ka p.log.length kc) (.slice wa wn wc) (.slice xa xn xc)) (y := p) memX) ?_
   refine SG.drawN 5 5 (Blk b2 26 (pv p (.slice ka p.log.length kc) (.slice wa wn wc) (.slice xa xn xc)) :: Blk b6 50 (mv (noM p m) (.slice none 0 0)) :: Rd RMsg (mv (noM p m) (.slice none 0 0)) (noM p m) :: Rd RPeer (pv p (.slice ka p.log.length kc) (.slice wa wn wc) (.slice xa xn xc)) p :: L) wide rfl rfl (by repeat (first | exact Ent.refl _ | (apply Ent.cons; (· repeat (first | exact Pick.here | (refine Pick.sl ?_; (· repeat (first | exact List.Mem.head _ | assumption | apply List.Mem.tail))) | apply Pick.there))) | (refine Ent.trans (Ent.drop _ _) ?_))) ?_
   refine RH.val 0 rfl krX krX krX krX (Wanted.free rfl) (V.loadAgg (us := pv p (.slice ka p.log.length kc) (.slice wa wn wc) (.slice xa xn xc)) rfl ag26 rfl pickX rfl rfl) rfl ?_
   refine RH.val 1 rfl krX krX krX krX (Wanted.free rfl) (V.loadAgg (us := mv (noM p m) (.slice none 0 0)) rfl ag50 rfl pickX rfl rfl) rfl ?_
   refine RH.two (i := 2) (j := 3) krX ?_ ?_
   ·
    refine RHone.eff rfl (Wanted.free rfl) (E.lit1 (mv (noM p m) (.slice none 0 0)) rfl el35.slice ze50 rfl (by decide) (by decide) rfl rfl rfl) rfl ?_
    rintro _ _ ⟨b99, rfl, rfl⟩
    refine ⟨.inr entX, ?_⟩
    refine RH.one (i := 3) krX ?_
    refine RHone.eff rfl (Wanted.free rfl) (E.storeWhole rfl rfl rfl (by rfl) sz26 pickX pv_one (by rfl)) rfl ?_
    rintro _ _ rfl
    refine ⟨.inr entX, ?_⟩
    refine RH.val 4 rfl krX krX krX krX (Wanted.free rfl) (V.assign rfl rfl) rfl ?_
    refine RH.done krX ?_
    refine SG.ent (Buf.of_els (T := RMsg) (b := b99) (e := 50) (m := 1) (l := [_]) pickX rfl rfl (by decide) (fun z h H => Rep.rows.single (Rd.rep (T := RMsg) memX z h H))) ?_
    refine SG.publish (T := RMsg) (a := some ⟨b99, 0, none⟩) pickX ?_
    refine SG.retE (Ret.r2 Try.func77 rfl (.agg rfl ag26 pickX rfl rfl) (.tmp rfl)) ?_ ⟨_, _, _, rfl, rfl⟩
    exact entX
   ·
    refine RHone.eff rfl (Wanted.free rfl) (E.storeWhole rfl rfl rfl (by rfl) sz26 pickX pv_one (by rfl)) rfl ?_
    rintro _ _ rfl
    refine ⟨.inr entX, ?_⟩
    refine RH.one (i := 2) krX ?_
    refine RHone.eff rfl (Wanted.free rfl) (E.lit1 (mv (noM p m) (.slice none 0 0)) rfl el35.slice ze50 rfl (by decide) (by decide) rfl rfl rfl) rfl ?_
    rintro _ _ ⟨b99, rfl, rfl⟩
    refine ⟨.inr entX, ?_⟩
    refine RH.val 4 rfl krX krX krX krX (Wanted.free rfl) (V.assign rfl rfl) rfl ?_
    refine RH.done krX ?_
    refine SG.ent (Buf.of_els (T := RMsg) (b := b99) (e := 50) (m := 1) (l := [_]) pickX rfl rfl (by decide) (fun z h H => Rep.rows.single (Rd.rep (T := RMsg) memX z h H))) ?_
    refine SG.publish (T := RMsg) (a := some ⟨b99, 0, none⟩) pickX ?_
    refine SG.retE (Ret.r2 Try.func77 rfl (.agg rfl ag26 pickX rfl rfl) (.tmp rfl)) ?_ ⟨_, _, _, rfl, rfl⟩
    exact entX
  ·
   refine RL.val (Wanted.free rfl) (V.pick_false rfl rfl rfl) rfl ?_
   refine RL.nil ?_
   refine SG.cond_false rfl ?_
   refine SG.skip ?_
   refine SG.seq ?_
   have hst1 : ¬ (m.term < p.term ∨ p.role = 2) := by omega
   refine SG.region ?_
   refine RL.val (Wanted.free rfl) (V.fieldAddr rfl rfl fo26_4) rfl ?_
   refine RL.eff (Wanted.free rfl) (E.store1 rfl rfl rfl rfl rfl sz3 pickX rfl) rfl ?_
   rintro _ _ rfl
   refine RL.nil ?_
   refine SG.seq ?_
   refine SG.region ?_
   refine RL.val (Wanted.free rfl) (V.fieldAddr rfl rfl fo26_7) rfl ?_
   refine RL.eff (Wanted.free rfl) (E.store1 rfl rfl rfl rfl rfl sz24 pickX rfl) rfl ?_
   rintro _ _ rfl
   refine RL.nil ?_
   refine SG.seq ?_
   refine SG.seq ?_
   refine SG.ent (RPeer.mk (p := followP p) (la := ka) (ln := p.log.length) (lc := kc) (va := none) (vn := 0) (vc := 0) (ma := xa) (mn := xn) (mc := xc) memX memX memX) ?_
   refine SG.drawL 21 21 wide rfl rfl ?_
   refine RH.val 0 rfl krX krX krX krX (Wanted.free rfl) (V.fieldAddr rfl rfl fo50_4) rfl ?_
   refine RH.val 1 rfl krX krX krX krX (Wanted.free rfl) (V.load rfl on3 rfl pickX rfl) rfl ?_
   refine RH.val 2 rfl krX krX krX krX (Wanted.free rfl) (V.fieldAddr rfl rfl fo26_6) rfl ?_
   refine RH.val 3 rfl krX krX krX krX (Wanted.free rfl) (V.load rfl on23 rfl pickX rfl) rfl ?_
   refine RH.val 4 rfl krX krX krX krX (Wanted.free rfl) (V.len rfl rfl el23.under rfl) rfl ?_
   refine RH.cmp 5 rfl krX krX krX krX (Wanted.free rfl) (V.bin rfl rfl rfl B.gtr) rfl (fun h49 => ?_) (fun h49 => ?_)
   ·
    refine RH.val 6 rfl krX krX krX krX (Wanted.free rfl) (V.move rfl rfl) rfl ?_
    refine RH.skip 7 rfl krX krX krX krX (Wanted.no rfl rfl rfl rfl rfl) rfl ?_
    refine RH.skip 8 rfl krX krX krX krX (Wanted.no rfl rfl rfl rfl rfl) rfl ?_
    refine RH.skip 9 rfl krX krX krX krX (Wanted.no rfl rfl rfl rfl rfl) rfl ?_
    refine RH.skip 10 rfl krX krX krX krX (Wanted.no rfl rfl rfl rfl rfl) rfl ?_
    refine RH.skip 11 rfl krX krX krX krX (Wanted.un rfl rfl rfl) rfl ?_
    refine RH.skip 12 rfl krX krX krX krX (Wanted.un rfl rfl rfl) rfl ?_
    refine RH.skip 13 rfl krX krX krX krX (Wanted.un rfl rfl rfl) rfl ?_
    refine RH.skip 14 rfl krX krX krX krX (Wanted.un rfl rfl rfl) rfl ?_
    refine RH.skip 15 rfl krX krX krX krX (Wanted.un rfl rfl rfl) rfl ?_
    refine RH.skip 16 rfl krX krX krX krX (Wanted.un rfl rfl rfl) rfl ?_
    refine RH.skip 17 rfl krX krX krX krX (Wanted.un rfl rfl rfl) rfl ?_
    refine RH.skip 18 rfl krX krX krX krX (Wanted.un rfl rfl rfl) rfl ?_
    refine RH.skip 19 rfl krX krX krX krX (Wanted.no rfl rfl rfl rfl rfl) rfl ?_
    refine RH.pure 20 rfl krX krX krX krX (Wanted.free rfl) (V.pick_true rfl rfl rfl) rfl ?_
    refine RH.done krX ?_
    refine SG.cond_true rfl ?_
    refine SG.seq ?_
    have hst : Rp.store p m = (followP p, [noM p m]) := by rw [Rp.store, if_neg hst1, if_pos (by unfold misses; omega)]
    rw [hst]
    refine SG.drawN 5 5 (Blk b2 26 (pv (followP p) (.slice ka p.log.length kc) (.slice none 0 0) (.slice xa xn xc)) :: Blk b6 50 (mv (noM p m) (.slice none 0 0)) :: Rd RMsg (mv (noM p m) (.slice none 0 0)) (noM p m) :: Rd RPeer (pv (followP p) (.slice ka p.log.length kc) (.slice none 0 0) (.slice xa xn xc)) (followP p) :: L) wide rfl rfl (by repeat (first | exact Ent.refl _ | (apply Ent.cons; (· repeat (first | exact Pick.here | (refine Pick.sl ?_; (· repeat (first | exact List.Mem.head _ | assumption | apply List.Mem.tail))) | apply Pick.there))) | (refine Ent.trans (Ent.drop _ _) ?_))) ?_
    refine RH.val 0 rfl krX krX krX krX (Wanted.free rfl) (V.loadAgg (us := pv (followP p) (.slice ka p.log.length kc) (.slice none 0 0) (.slice xa xn xc)) rfl ag26 rfl pickX rfl rfl) rfl ?_
    refine RH.val 1 rfl krX krX krX krX (Wanted.free rfl) (V.loadAgg (us := mv (noM p m) (.slice none 0 0)) rfl ag50 rfl pickX rfl rfl) rfl ?_
    refine RH.two (i := 2) (j := 3) krX ?_ ?_
    ·
     refine RHone.eff rfl (Wanted.free rfl) (E.lit1 (mv (noM p m) (.slice none 0 0)) rfl el35.slice ze50 rfl (by decide) (by decide) rfl rfl rfl) rfl ?_
     rintro _ _ ⟨b99, rfl, rfl⟩
     refine ⟨.inr entX, ?_⟩
     refine RH.one (i := 3) krX ?_
     refine RHone.eff rfl (Wanted.free rfl) (E.storeWhole rfl rfl rfl (by rfl) sz26 pickX pv_one (by rfl)) rfl ?_
     rintro _ _ rfl
     refine ⟨.inr entX, ?_⟩
     refine RH.val 4 rfl krX krX krX krX (Wanted.free rfl) (V.assign rfl rfl) rfl ?_
     refine RH.done krX ?_
     refine SG.ent (Buf.of_els (T := RMsg) (b := b99) (e := 50) (m := 1) (l := [_]) pickX rfl rfl (by decide) (fun z h H => Rep.rows.single (Rd.rep (T := RMsg) memX z h H))) ?_
     refine SG.publish (T := RMsg) (a := some ⟨b99, 0, none⟩) pickX ?_
     refine SG.retE (Ret.r2 Try.func77 rfl (.agg rfl ag26 pickX rfl rfl) (.tmp rfl)) ?_ ⟨_, _, _, rfl, rfl⟩
     exact entX
    ·
     refine RHone.eff rfl (Wanted.free rfl) (E.storeWhole rfl rfl rfl (by rfl) sz26 pickX pv_one (by rfl)) rfl ?_
     rintro _ _ rfl
     refine ⟨.inr entX, ?_⟩
     refine RH.one (i := 2) krX ?_
     refine RHone.eff rfl (Wanted.free rfl) (E.lit1 (mv (noM p m) (.slice none 0 0)) rfl el35.slice ze50 rfl (by decide) (by decide) rfl rfl rfl) rfl ?_
     rintro _ _ ⟨b99, rfl, rfl⟩
     refine ⟨.inr entX, ?_⟩
     refine RH.val 4 rfl krX krX krX krX (Wanted.free rfl) (V.assign rfl rfl) rfl ?_
     refine RH.done krX ?_
     refine SG.ent (Buf.of_els (T := RMsg) (b := b99) (e := 50) (m := 1) (l := [_]) pickX rfl rfl (by decide) (fun z h H => Rep.rows.single (Rd.rep (T := RMsg) memX z h H))) ?_
     refine SG.publish (T := RMsg) (a := some ⟨b99, 0, none⟩) pickX ?_
     refine SG.retE (Ret.r2 Try.func77 rfl (.agg rfl ag26 pickX rfl rfl) (.tmp rfl)) ?_ ⟨_, _, _, rfl, rfl⟩
     exact entX
   ·
    refine RH.val 6 rfl krX krX krX krX (Wanted.free rfl) (V.move rfl rfl) rfl ?_
    refine RH.val 7 rfl krX krX krX krX (Wanted.yes rfl rfl rfl rfl) (V.fieldAddr rfl rfl fo50_4) rfl ?_
    refine RH.val 8 rfl krX krX krX krX (Wanted.yes rfl rfl rfl rfl) (V.load rfl on3 rfl pickX rfl) rfl ?_
    refine RH.cmp 9 rfl krX krX krX krX (Wanted.yes rfl rfl rfl rfl) (V.bin rfl rfl rfl B.gtr) rfl (fun h62 => ?_) (fun h62 => ?_)
    ·
     refine RH.val 10 rfl krX krX krX krX (Wanted.yes rfl rfl rfl rfl) (V.move rfl rfl) rfl ?_
     refine RH.val 11 rfl krX krX krX krX (Wanted.yes rfl rfl rfl rfl) (V.fieldAddr rfl rfl fo26_6) rfl ?_
     refine RH.val 12 rfl krX krX krX krX (Wanted.yes rfl rfl rfl rfl) (V.load rfl on23 rfl pickX rfl) rfl ?_
     refine RH.val 13 rfl krX krX krX krX (Wanted.yes rfl rfl rfl rfl) (V.fieldAddr rfl rfl fo50_4) rfl ?_
     refine RH.val 14 rfl krX krX krX krX (Wanted.yes rfl rfl rfl rfl) (V.load rfl on3 rfl pickX rfl) rfl ?_
     refine RH.val 16 rfl krX krX krX krX (Wanted.yes rfl rfl rfl rfl) (V.fieldAddr rfl rfl fo50_5) rfl ?_
     refine RH.val 17 rfl krX krX krX krX (Wanted.yes rfl rfl rfl rfl) (V.load rfl on3 rfl pickX rfl) rfl ?_
     refine RH.one (i := 15) krX ?_
     refine RHone.eff rfl (Wanted.yes rfl rfl rfl rfl) (E.call rfl go62 rfl (rterm_ok (l := p.log) (i := m.index) memX (by omega) (by omega))) rfl ?_
     rintro _ _ ⟨rfl, rfl⟩
     refine ⟨.inr entX, ?_⟩
     refine RH.cmp 18 rfl krX krX krX krX (Wanted.yes rfl rfl rfl rfl) (V.bin rfl rfl rfl B.neq) rfl (fun h71 => ?_) (fun h71 => ?_)
     ·
      have hmt : termAt p.log m.index ≠ m.prev := h71
      refine RH.pure 19 rfl krX krX krX krX (Wanted.yes rfl rfl rfl rfl) (V.pick_true rfl rfl rfl) rfl ?_
      refine RH.pure 20 rfl krX krX krX krX (Wanted.free rfl) (V.pick_false rfl rfl rfl) rfl ?_
      refine RH.done krX ?_
      refine SG.cond_true rfl ?_
      refine SG.seq ?_
      have hst : Rp.store p m = (followP p, [noM p m]) := by rw [Rp.store, if_neg hst1, if_pos (by unfold misses; omega)]
      rw [hst]
      refine SG.drawN 5 5 (Blk b2 26 (pv (followP p) (.slice ka p.log.length kc) (.slice none 0 0) (.slice xa xn xc)) :: Blk b6 50 (mv (noM p m) (.slice none 0 0)) :: Rd RMsg (mv (noM p m) (.slice none 0 0)) (noM p m) :: Rd RPeer (pv (followP p) (.slice ka p.log.length kc) (.slice none 0 0) (.slice xa xn xc)) (followP p) :: L) wide rfl rfl (by repeat (first | exact Ent.refl _ | (apply Ent.cons; (· repeat (first | exact Pick.here | (refine Pick.sl ?_; (· repeat (first | exact List.Mem.head _ | assumption | apply List.Mem.tail))) | apply Pick.there))) | (refine Ent.trans (Ent.drop _ _) ?_))) ?_
      refine RH.val 0 rfl krX krX krX krX (Wanted.free rfl) (V.loadAgg (us := pv (followP p) (.slice ka p.log.length kc) (.slice none 0 0) (.slice xa xn xc)) rfl ag26 rfl pickX rfl rfl) rfl ?_
      refine RH.val 1 rfl krX krX krX krX (Wanted.free rfl) (V.loadAgg (us := mv (noM p m) (.slice none 0 0)) rfl ag50 rfl pickX rfl rfl) rfl ?_
      refine RH.two (i := 2) (j := 3) krX ?_ ?_
      ·
       refine RHone.eff rfl (Wanted.free rfl) (E.lit1 (mv (noM p m) (.slice none 0 0)) rfl el35.slice ze50 rfl (by decide) (by decide) rfl rfl rfl) rfl ?_
       rintro _ _ ⟨b99, rfl, rfl⟩
       refine ⟨.inr entX, ?_⟩
       refine RH.one (i := 3) krX ?_
       refine RHone.eff rfl (Wanted.free rfl) (E.storeWhole rfl rfl rfl (by rfl) sz26 pickX pv_one (by rfl)) rfl ?_
       rintro _ _ rfl
       refine ⟨.inr entX, ?_⟩
       refine RH.val 4 rfl krX krX krX krX (Wanted.free rfl) (V.assign rfl rfl) rfl ?_
       refine RH.done krX ?_
       refine SG.ent (Buf.of_els (T := RMsg) (b := b99) (e := 50) (m := 1) (l := [_]) pickX rfl rfl (by decide) (fun z h H => Rep.rows.single (Rd.rep (T := RMsg) memX z h H))) ?_
       refine SG.publish (T := RMsg) (a := some ⟨b99, 0, none⟩) pickX ?_
       refine SG.retE (Ret.r2 Try.func77 rfl (.agg rfl ag26 pickX rfl rfl) (.tmp rfl)) ?_ ⟨_, _, _, rfl, rfl⟩
       exact entX
      ·
       refine RHone.eff rfl (Wanted.free rfl) (E.storeWhole rfl rfl rfl (by rfl) sz26 pickX pv_one (by rfl)) rfl ?_
       rintro _ _ rfl
       refine ⟨.inr entX, ?_⟩
       refine RH.one (i := 2) krX ?_
       refine RHone.eff rfl (Wanted.free rfl) (E.lit1 (mv (noM p m) (.slice none 0 0)) rfl el35.slice ze50 rfl (by decide) (by decide) rfl rfl rfl) rfl ?_
       rintro _ _ ⟨b99, rfl, rfl⟩
       refine ⟨.inr entX, ?_⟩
       refine RH.val 4 rfl krX krX krX krX (Wanted.free rfl) (V.assign rfl rfl) rfl ?_
       refine RH.done krX ?_
       refine SG.ent (Buf.of_els (T := RMsg) (b := b99) (e := 50) (m := 1) (l := [_]) pickX rfl rfl (by decide) (fun z h H => Rep.rows.single (Rd.rep (T := RMsg) memX z h H))) ?_
       refine SG.publish (T := RMsg) (a := some ⟨b99, 0, none⟩) pickX ?_
       refine SG.retE (Ret.r2 Try.func77 rfl (.agg rfl ag26 pickX rfl rfl) (.tmp rfl)) ?_ ⟨_, _, _, rfl, rfl⟩
       exact entX
     ·
      have hmt : termAt p.log m.index = m.prev := Decidable.byContradiction fun e => h71 e
      refine RH.pure 19 rfl krX krX krX krX (Wanted.yes rfl rfl rfl rfl) (V.pick_true rfl rfl rfl) rfl ?_
      refine RH.pure 20 rfl krX krX krX krX (Wanted.free rfl) (V.pick_false rfl rfl rfl) rfl ?_
      refine RH.done krX ?_
      refine SG.cond_false rfl ?_
      refine SG.skip ?_
      refine SG.seq ?_
      have hst : Rp.store p m = (storeP (followP p) m, [yesM p m]) := by rw [Rp.store, if_neg hst1, if_neg (by unfold misses; omega)]
      have hle : m.index ≤ p.log.length := by omega
      obtain ⟨x, hx⟩ := Int.eq_ofNat_of_zero_le hx0
      rw [hst]
      refine SG.region ?_
      refine RL.val (Wanted.free rfl) (V.fieldAddr rfl rfl fo26_6) rfl ?_
      refine RL.val (Wanted.free rfl) (V.load rfl on23 rfl pickX rfl) rfl ?_
      refine RL.eff (Wanted.free rfl) (E.call rfl go65 rfl (rcopied_ok (l := p.log) memX (by omega))) rfl ?_
      rintro _ _ ⟨a58, c58, rfl, rfl⟩
      refine RL.val (Wanted.free rfl) (V.assign rfl rfl) rfl ?_
      refine RL.nil ?_
      refine SG.seq ?_
      refine SG.seq ?_
      refine SG.region ?_
      refine RL.val (Wanted.free rfl) (V.assign rfl rfl) rfl ?_
      refine RL.nil ?_
      refine SG.join (ι := Option Addr × Nat × Nat) (fun ⟨ja, jn, jc⟩ => [(2, ptr b2 0), (3, ptr b3 0), (4, ptr b4 0), (7, .slice ja jn jc)]) (fun ⟨ja, jn, jc⟩ => Buf RSlot 53 ja jn jc (merge p.log m.index.toNat m.slots) :: Blk b2 26 (pv (followP p) (.slice ka p.log.length kc) (.slice none 0 0) (.slice xa xn xc)) :: Blk b3 50 (mv m (.slice sa m.slots.length sc)) :: Blk b4 26 [.int .i64 0, .int .i64 0, .int .i64 0, .int .i64 0, .int .i64 0, .int .i64 0, .slice none 0 0, .slice none 0 0, .slice none 0 0] :: Sl RSlot ka p.log.length kc p.log :: Sl RB none 0 0 ([] : List Bool) :: Sl RI xa xn xc p.mtch :: Sl RSlot sa m.slots.length sc m.slots :: Sl RSlot none 0 0 ([] : List Slot) :: L) (fun ⟨ja, jn, jc⟩ => True) ?_ (fun rest => ?_)
      ·
       rintro ⟨ja, jn, jc⟩ _
       try dsimp only
       refine SG.seq ?_
       refine SG.publish (T := RSlot) (a := ja) pickX ?_
       refine SG.region ?_
       refine RL.val (Wanted.free rfl) (V.move rfl rfl) rfl ?_
       refine RL.val (Wanted.free rfl) (V.fieldAddr rfl rfl fo26_6) rfl ?_
       refine RL.eff (Wanted.free rfl) (E.store1 rfl rfl rfl rfl rfl sz23 pickX rfl) rfl ?_
       rintro _ _ rfl
       refine RL.nil ?_
       refine SG.seq ?_
       refine SG.region ?_
       refine RL.val (Wanted.free rfl) (V.fieldAddr rfl rfl fo26_5) rfl ?_
       refine RL.val (Wanted.free rfl) (V.load rfl on3 rfl pickX rfl) rfl ?_
       refine RL.val (Wanted.free rfl) (V.fieldAddr rfl rfl fo50_6) rfl ?_
       refine RL.val (Wanted.free rfl) (V.load rfl on3 rfl pickX rfl) rfl ?_
       refine RL.val (Wanted.free rfl) (V.fieldAddr rfl rfl fo50_4) rfl ?_
       refine RL.val (Wanted.free rfl) (V.load rfl on3 rfl pickX rfl) rfl ?_
       refine RL.val (Wanted.free rfl) (V.fieldAddr rfl rfl fo50_7) rfl ?_
       refine RL.val (Wanted.free rfl) (V.load rfl on23 rfl pickX rfl) rfl ?_
       refine RL.val (Wanted.free rfl) (V.len rfl rfl el23.under rfl) rfl ?_
       refine RL.val (Wanted.free rfl) (V.bin rfl rfl rfl (B.addI (by omega) (by omega))) rfl ?_
       refine RL.val (Wanted.free rfl) (V.min rfl rfl rfl rfl) rfl ?_
       refine RL.val (Wanted.free rfl) (V.max rfl rfl rfl rfl) rfl ?_
       rw [mm_eq]
       refine RL.val (Wanted.free rfl) (V.fieldAddr rfl rfl fo26_5) rfl ?_
       refine RL.eff (Wanted.free rfl) (E.store1 rfl rfl rfl rfl rfl sz3 pickX rfl) rfl ?_
       rintro _ _ rfl
       refine RL.nil ?_
       refine SG.seq ?_
       refine SG.ent (RMsg.mk (m := yesM p m) (a := none) (n' := 0) (c := 0) memX) ?_
       refine SG.ent (RPeer.mk (p := (storeP (followP p) m)) (la := ja) (ln := jn) (lc := jc) (va := none) (vn := 0) (vc := 0) (ma := xa) (mn := xn) (mc := xc) memX memX memX) ?_
       refine SG.drawN 17 17 (Blk b2 26 (pv (storeP (followP p) m) (.slice ja jn jc) (.slice none 0 0) (.slice xa xn xc)) :: Blk b3 50 (mv m (.slice sa m.slots.length sc)) :: Rd RMsg (mv (yesM p m) (.slice none 0 0)) (yesM p m) :: Rd RPeer (pv (storeP (followP p) m) (.slice ja jn jc) (.slice none 0 0) (.slice xa xn xc)) (storeP (followP p) m) :: L) wide rfl rfl (by repeat (first | exact Ent.refl _ | (apply Ent.cons; (· repeat (first | exact Pick.here | (refine Pick.sl ?_; (· repeat (first | exact List.Mem.head _ | assumption | apply List.Mem.tail))) | apply Pick.there))) | (refine Ent.trans (Ent.drop _ _) ?_))) ?_
       refine RH.val 0 rfl krX krX krX krX (Wanted.free rfl) (V.loadAgg (us := pv (storeP (followP p) m) (.slice ja jn jc) (.slice none 0 0) (.slice xa xn xc)) rfl ag26 rfl pickX rfl rfl) rfl ?_
       refine RH.val 1 rfl krX krX krX krX (Wanted.free rfl) (V.fieldAddr rfl rfl fo26_0) rfl ?_
       refine RH.val 2 rfl krX krX krX krX (Wanted.free rfl) (V.load rfl on3 rfl pickX rfl) rfl ?_
       refine RH.val 3 rfl krX krX krX krX (Wanted.free rfl) (V.fieldAddr rfl rfl fo50_1) rfl ?_
       refine RH.val 4 rfl krX krX krX krX (Wanted.free rfl) (V.load rfl on3 rfl pickX rfl) rfl ?_
       refine RH.val 5 rfl krX krX krX krX (Wanted.free rfl) (V.fieldAddr rfl rfl fo26_2) rfl ?_
       refine RH.val 6 rfl krX krX krX krX (Wanted.free rfl) (V.load rfl on3 rfl pickX rfl) rfl ?_
       refine RH.val 7 rfl krX krX krX krX (Wanted.free rfl) (V.fieldAddr rfl rfl fo50_4) rfl ?_
       refine RH.val 8 rfl krX krX krX krX (Wanted.free rfl) (V.load rfl on3 rfl pickX rfl) rfl ?_
       refine RH.val 9 rfl krX krX krX krX (Wanted.free rfl) (V.fieldAddr rfl rfl fo50_7) rfl ?_
       refine RH.val 10 rfl krX krX krX krX (Wanted.free rfl) (V.load rfl on23 rfl pickX rfl) rfl ?_
       refine RH.val 11 rfl krX krX krX krX (Wanted.free rfl) (V.len rfl rfl el23.under rfl) rfl ?_
       refine RH.val 12 rfl krX krX krX krX (Wanted.free rfl) (V.bin rfl rfl rfl (B.addI (by omega) (by omega))) rfl ?_
       refine RH.val 13 rfl krX krX krX krX (Wanted.free rfl) (V.buildS [(0, _), (1, _), (2, _), (3, _), (4, _), (8, _)] rfl bs50 (by exact ⟨rfl, ⟨_, rfl, rfl⟩, ⟨rfl, ⟨_, rfl, rfl⟩, ⟨rfl, ⟨_, rfl, rfl⟩, ⟨rfl, ⟨_, rfl, rfl⟩, ⟨rfl, ⟨_, rfl, rfl⟩, ⟨rfl, ⟨_, rfl, rfl⟩, trivial⟩⟩⟩⟩⟩⟩) rfl) rfl ?_
       refine RH.two (i := 14) (j := 15) krX ?_ ?_
       ·
        refine RHone.eff rfl (Wanted.free rfl) (E.lit1 (mv (yesM p m) (.slice none 0 0)) rfl el35.slice ze50 rfl (by decide) (by decide) rfl rfl rfl) rfl ?_
        rintro _ _ ⟨b99, rfl, rfl⟩
        refine ⟨.inr entX, ?_⟩
        refine RH.one (i := 15) krX ?_
        refine RHone.eff rfl (Wanted.free rfl) (E.storeWhole rfl rfl rfl (by rfl) sz26 pickX pv_one (by rfl)) rfl ?_
        rintro _ _ rfl
        refine ⟨.inr entX, ?_⟩
        refine RH.val 16 rfl krX krX krX krX (Wanted.free rfl) (V.assign rfl rfl) rfl ?_
        refine RH.done krX ?_
        refine SG.ent (Buf.of_els (T := RMsg) (b := b99) (e := 50) (m := 1) (l := [_]) pickX rfl rfl (by decide) (fun z h H => Rep.rows.single (Rd.rep (T := RMsg) memX z h H))) ?_
        refine SG.publish (T := RMsg) (a := some ⟨b99, 0, none⟩) pickX ?_
        refine SG.retE (Ret.r2 Try.func77 rfl (.agg rfl ag26 pickX rfl rfl) (.tmp rfl)) ?_ ⟨_, _, _, rfl, rfl⟩
        exact entX
       ·
        refine RHone.eff rfl (Wanted.free rfl) (E.storeWhole rfl rfl rfl (by rfl) sz26 pickX pv_one (by rfl)) rfl ?_
        rintro _ _ rfl
        refine ⟨.inr entX, ?_⟩
        refine RH.one (i := 14) krX ?_
        refine RHone.eff rfl (Wanted.free rfl) (E.lit1 (mv (yesM p m) (.slice none 0 0)) rfl el35.slice ze50 rfl (by decide) (by decide) rfl rfl rfl) rfl ?_
        rintro _ _ ⟨b99, rfl, rfl⟩
        refine ⟨.inr entX, ?_⟩
        refine RH.val 16 rfl krX krX krX krX (Wanted.free rfl) (V.assign rfl rfl) rfl ?_
        refine RH.done krX ?_
        refine SG.ent (Buf.of_els (T := RMsg) (b := b99) (e := 50) (m := 1) (l := [_]) pickX rfl rfl (by decide) (fun z h H => Rep.rows.single (Rd.rep (T := RMsg) memX z h H))) ?_
        refine SG.publish (T := RMsg) (a := some ⟨b99, 0, none⟩) pickX ?_
        refine SG.retE (Ret.r2 Try.func77 rfl (.agg rfl ag26 pickX rfl rfl) (.tmp rfl)) ?_ ⟨_, _, _, rfl, rfl⟩
        exact entX
      ·
       refine SG.block ?_
       refine SG.weaken (SG.loop2 (fun m0 al M => ∃ (i : Nat) (a7 : Option Addr) (c7 : Nat), i ≤ m.slots.length ∧ x + i ≤ p.log.length ∧ (∀ j, j < i → ∃ y z, p.log[x + j]? = some y ∧ m.slots[j]? = some z ∧ y.term = z.term) ∧ m0 = m.slots.length - i ∧ al = [(2, ptr b2 0), (3, ptr b3 0), (4, ptr b4 0), (7, .slice a7 p.log.length c7), (8, vI i)] ∧ M = Buf RSlot 53 a7 p.log.length c7 p.log :: Blk b2 26 (pv (followP p) (.slice ka p.log.length kc) (.slice none 0 0) (.slice xa xn xc)) :: Blk b3 50 (mv m (.slice sa m.slots.length sc)) :: Blk b4 26 [.int .i64 0, .int .i64 0, .int .i64 0, .int .i64 0, .int .i64 0, .int .i64 0, .slice none 0 0, .slice none 0 0, .slice none 0 0] :: Sl RSlot ka p.log.length kc p.log :: Sl RB none 0 0 ([] : List Bool) :: Sl RI xa xn xc p.mtch :: Sl RSlot sa m.slots.length sc m.slots :: Sl RSlot none 0 0 ([] : List Slot) :: L) (m0 := _) ⟨0, a58, c58, by omega, by omega, fun j h => by omega, rfl, rfl, rfl⟩ ?_) ?_ ?_
       rotate_left
       ·
        repeat (first | exact EnvLe.nil _ | refine EnvLe.cons rfl ?_)
       ·
        exact entX
       rintro _ _ _ ⟨i, a7, c7, hi, hxi, hsame, rfl, rfl, rfl⟩ ih0
       refine SG.seq ?_
       refine SG.seq ?_
       refine SG.region ?_
       refine RL.val (Wanted.free rfl) (V.move rfl rfl) rfl ?_
       refine RL.val (Wanted.free rfl) (V.fieldAddr rfl rfl fo50_7) rfl ?_
       refine RL.val (Wanted.free rfl) (V.load rfl on23 rfl pickX rfl) rfl ?_
       refine RL.val (Wanted.free rfl) (V.len rfl rfl el23.under rfl) rfl ?_
       refine RL.cmp (Wanted.free rfl) (V.bin rfl rfl rfl B.lss) rfl (fun h126 => ?_) (fun h126 => ?_)
       ·
        refine RL.nil ?_
        refine SG.cond_true rfl ?_
        refine SG.skip ?_
        refine SG.seq ?_
        refine SG.block ?_
        refine SG.seq ?_
        refine SG.elemDt (a := sa) (l := m.slots) memX (show m.slots[i]? = some (m.slots[i]'(by omega)) from List.getElem?_eq_getElem (by omega)) fun _ => ?_
        refine SG.region ?_
        refine RL.val (Wanted.free rfl) (V.fieldAddr rfl rfl fo50_4) rfl ?_
        refine RL.val (Wanted.free rfl) (V.load rfl on3 rfl pickX rfl) rfl ?_
        refine RL.val (Wanted.free rfl) (V.move rfl rfl) rfl ?_
        refine RL.val (Wanted.free rfl) (V.bin rfl rfl rfl (B.addI (by omega) (by omega))) rfl ?_
        refine RL.val (Wanted.free rfl) (V.assign rfl rfl) rfl ?_
        refine RL.nil ?_
        refine SG.seq ?_
        refine SG.drawL 18 18 wide rfl rfl ?_
        refine RH.val 0 rfl krX krX krX krX (Wanted.free rfl) (V.move rfl rfl) rfl ?_
        refine RH.val 1 rfl krX krX krX krX (Wanted.free rfl) (V.move rfl rfl) rfl ?_
        refine RH.val 2 rfl krX krX krX krX (Wanted.free rfl) (V.len rfl rfl el23.under rfl) rfl ?_
        refine RH.cmp 3 rfl krX krX krX krX (Wanted.free rfl) (V.bin rfl rfl rfl B.geq) rfl (fun h135 => ?_) (fun h135 => ?_)
        ·
         refine RH.val 4 rfl krX krX krX krX (Wanted.free rfl) (V.move rfl rfl) rfl ?_
         refine RH.skip 5 rfl krX krX krX krX (Wanted.no rfl rfl rfl rfl rfl) rfl ?_
         refine RH.skip 6 rfl krX krX krX krX (Wanted.no rfl rfl rfl rfl rfl) rfl ?_
         refine RH.skip 7 rfl krX krX krX krX (Wanted.no rfl rfl rfl rfl rfl) rfl ?_
         refine RH.skip 8 rfl krX krX krX krX (Wanted.no rfl rfl rfl rfl rfl) rfl ?_
         refine RH.skip 9 rfl krX krX krX krX (Wanted.no rfl rfl rfl rfl rfl) rfl ?_
         refine RH.skip 10 rfl krX krX krX krX (Wanted.no rfl rfl rfl rfl rfl) rfl ?_
         refine RH.skip 11 rfl krX krX krX krX (Wanted.no rfl rfl rfl rfl rfl) rfl ?_
         refine RH.skip 12 rfl krX krX krX krX (Wanted.no rfl rfl rfl rfl rfl) rfl ?_
         refine RH.skip 13 rfl krX krX krX krX (Wanted.no rfl rfl rfl rfl rfl) rfl ?_
         refine RH.skip 14 rfl krX krX krX krX (Wanted.no rfl rfl rfl rfl rfl) rfl ?_
         refine RH.skip 15 rfl krX krX krX krX (Wanted.no rfl rfl rfl rfl rfl) rfl ?_
         refine RH.skip 16 rfl krX krX krX krX (Wanted.no rfl rfl rfl rfl rfl) rfl ?_
         refine RH.pure 17 rfl krX krX krX krX (Wanted.free rfl) (V.pick_true rfl rfl rfl) rfl ?_
         refine RH.done krX ?_
         refine SG.cond_true rfl ?_
         refine SG.seq ?_
         have hmg : merge p.log m.index.toNat m.slots = p.log.take (x + i) ++ m.slots.drop i := by rw [merge_at (i := i) (by omega) (by rw [show m.index.toNat = x from by omega]; exact hsame), show m.index.toNat = x from by omega]; exact merge_stop (by omega) (by first | (left; omega) | (right; exact ⟨by omega, by omega⟩))
         refine SG.publish (T := RSlot) (a := a7) pickX ?_
         refine SG.sl (T := RSlot) (a := a7) (l := p.log) memX fun _ hc7 _ => ?_
         refine SG.cut (lo := 0) (hi := x + i) (l' := p.log.take (x + i)) (a := a7) (T := RSlot) memX (by omega) (by omega) (by simp) ?_
         refine SG.cut (lo := i) (hi := m.slots.length) (l' := m.slots.drop i) (a := sa) (T := RSlot) memX (by omega) (by omega) (List.take_of_length_le (by simp)) ?_
         refine SG.drawN 10 10 (Blk b3 50 (mv m (.slice sa m.slots.length sc)) :: Sl RSlot (cutA a7 0 2 c7) (x + i - 0) (c7 - 0) (p.log.take (x + i)) :: Sl RSlot (cutA sa i 2 sc) (m.slots.length - i) (sc - i) (m.slots.drop i) :: Blk b2 26 (pv (followP p) (.slice ka p.log.length kc) (.slice none 0 0) (.slice xa xn xc)) :: Blk b4 26 [.int .i64 0, .int .i64 0, .int .i64 0, .int .i64 0, .int .i64 0, .int .i64 0, .slice none 0 0, .slice none 0 0, .slice none 0 0] :: Sl RSlot ka p.log.length kc p.log :: Sl RB none 0 0 ([] : List Bool) :: Sl RI xa xn xc p.mtch :: Sl RSlot sa m.slots.length sc m.slots :: Sl RSlot none 0 0 ([] : List Slot) :: L) wide rfl rfl (by repeat (first | exact Ent.refl _ | (apply Ent.cons; (· repeat (first | exact Pick.here | (refine Pick.sl ?_; (· repeat (first | exact List.Mem.head _ | assumption | apply List.Mem.tail))) | apply Pick.there))) | (refine Ent.trans (Ent.drop _ _) ?_))) ?_
         refine RH.val 0 rfl krX krX krX krX (Wanted.free rfl) (V.move rfl rfl) rfl ?_
         refine RH.val 1 rfl krX krX krX krX (Wanted.free rfl) (V.move rfl rfl) rfl ?_
         refine RH.val 2 rfl krX krX krX krX (Wanted.free rfl) (V.slice (T := RSlot) (hi := x + i) rfl el23.slice rfl rfl ⟨_, _, rfl, (by first | rfl | omega)⟩ (by omega) (by omega)) rfl ?_
         refine RH.val 4 rfl krX krX krX krX (Wanted.free rfl) (V.fieldAddr rfl rfl fo50_7) rfl ?_
         refine RH.val 5 rfl krX krX krX krX (Wanted.free rfl) (V.load rfl on23 rfl pickX rfl) rfl ?_
         refine RH.val 6 rfl krX krX krX krX (Wanted.free rfl) (V.move rfl rfl) rfl ?_
         refine RH.val 7 rfl krX krX krX krX (Wanted.free rfl) (V.slice (T := RSlot) (lo := i) (hi := m.slots.length) rfl el23.slice rfl ⟨_, _, rfl, (by first | rfl | omega)⟩ rfl (by omega) (by omega)) rfl ?_
         refine RH.one (i := 3) krX ?_
         refine RHone.eff rfl (Wanted.free rfl) (E.call rfl go65 rfl (rcopied_ok (l := p.log.take (x + i)) memX (by rw [List.length_take]; omega))) rfl ?_
         rintro _ _ ⟨a91, c91, rfl, rfl⟩
         refine ⟨.inr entX, ?_⟩
         refine RH.one (i := 8) krX ?_
         refine RHone.eff rfl (Wanted.free rfl) (E.append (T := RSlot) rfl rfl rfl el23 el23.noInt rfl rfl pickX (Src.sl (l := m.slots.drop i) (by decide) memX) (by simp; omega) (by simp; omega)) rfl ?_
         intro _ _ hK145
         try rw [List.nil_append] at hK145
         try rw [Nat.zero_add] at hK145
         obtain ⟨a96, c96, rfl, rfl⟩ := hK145
         refine ⟨.inr entX, ?_⟩
         refine RH.val 9 rfl krX krX krX krX (Wanted.free rfl) (V.assign rfl rfl) rfl ?_
         refine RH.done krX ?_
         refine SG.exit rfl ?_
         refine SG.weaken (rest ⟨a96, (p.log.take (x + i)).length + (m.slots.drop i).length, c96⟩ trivial) ?_ ?_
         ·
          repeat (first | exact EnvLe.nil _ | refine EnvLe.cons rfl ?_)
         ·
          rw [hmg]
          exact entX
        ·
         refine RH.val 4 rfl krX krX krX krX (Wanted.free rfl) (V.move rfl rfl) rfl ?_
         refine RH.val 5 rfl krX krX krX krX (Wanted.yes rfl rfl rfl rfl) (V.move rfl rfl) rfl ?_
         refine RH.val 6 rfl krX krX krX krX (Wanted.yes rfl rfl rfl rfl) (V.move rfl rfl) rfl ?_
         refine RH.val 7 rfl krX krX krX krX (Wanted.yes rfl rfl rfl rfl) (V.indexBuf (j := x + i) rfl el23.slice rfl rfl pickX (by first | rfl | omega) (by omega)) rfl ?_
         refine RH.val 8 rfl krX krX krX krX (Wanted.yes rfl rfl rfl rfl) (V.fieldBuf (j := x + i) rfl rfl fo53_0 pickX (by omega)) rfl ?_
         refine RH.val 9 rfl krX krX krX krX (Wanted.yes rfl rfl rfl rfl) (V.loadBufDtF (j := x + i) rfl on3 rfl pickX (List.getElem?_eq_getElem (by omega)) rfl) rfl ?_
         refine RH.val 10 rfl krX krX krX krX (Wanted.yes rfl rfl rfl rfl) (V.fieldAddr rfl rfl fo50_7) rfl ?_
         refine RH.val 11 rfl krX krX krX krX (Wanted.yes rfl rfl rfl rfl) (V.load rfl on23 rfl pickX rfl) rfl ?_
         refine RH.val 12 rfl krX krX krX krX (Wanted.yes rfl rfl rfl rfl) (V.move rfl rfl) rfl ?_
         refine RH.val 13 rfl krX krX krX krX (Wanted.yes rfl rfl rfl rfl) (V.indexSl (T := RSlot) (a := sa) (l := m.slots) (j := i) rfl el23.slice rfl rfl memX rfl (by omega)) rfl ?_
         refine RH.val 14 rfl krX krX krX krX (Wanted.yes rfl rfl rfl rfl) (V.fieldAt rfl rfl fo53_0 memX) rfl ?_
         refine RH.val 15 rfl krX krX krX krX (Wanted.yes rfl rfl rfl rfl) (V.loadAtF rfl on3 rfl memX rfl) rfl ?_
         refine RH.cmp 16 rfl krX krX krX krX (Wanted.yes rfl rfl rfl rfl) (V.bin rfl rfl rfl B.neq) rfl (fun h159 => ?_) (fun h159 => ?_)
         ·
          refine RH.pure 17 rfl krX krX krX krX (Wanted.free rfl) (V.pick_false rfl rfl rfl) rfl ?_
          refine RH.done krX ?_
          refine SG.cond_true rfl ?_
          refine SG.seq ?_
          have hmg : merge p.log m.index.toNat m.slots = p.log.take (x + i) ++ m.slots.drop i := by rw [merge_at (i := i) (by omega) (by rw [show m.index.toNat = x from by omega]; exact hsame), show m.index.toNat = x from by omega]; exact merge_stop (by omega) (by first | (left; omega) | (right; exact ⟨by omega, by omega⟩))
          refine SG.publish (T := RSlot) (a := a7) pickX ?_
          refine SG.sl (T := RSlot) (a := a7) (l := p.log) memX fun _ hc7 _ => ?_
          refine SG.cut (lo := 0) (hi := x + i) (l' := p.log.take (x + i)) (a := a7) (T := RSlot) memX (by omega) (by omega) (by simp) ?_
          refine SG.cut (lo := i) (hi := m.slots.length) (l' := m.slots.drop i) (a := sa) (T := RSlot) memX (by omega) (by omega) (List.take_of_length_le (by simp)) ?_
          refine SG.drawN 10 10 (Blk b3 50 (mv m (.slice sa m.slots.length sc)) :: Sl RSlot (cutA a7 0 2 c7) (x + i - 0) (c7 - 0) (p.log.take (x + i)) :: Sl RSlot (cutA sa i 2 sc) (m.slots.length - i) (sc - i) (m.slots.drop i) :: Blk b2 26 (pv (followP p) (.slice ka p.log.length kc) (.slice none 0 0) (.slice xa xn xc)) :: Blk b4 26 [.int .i64 0, .int .i64 0, .int .i64 0, .int .i64 0, .int .i64 0, .int .i64 0, .slice none 0 0, .slice none 0 0, .slice none 0 0] :: Sl RSlot ka p.log.length kc p.log :: Sl RB none 0 0 ([] : List Bool) :: Sl RI xa xn xc p.mtch :: Sl RSlot sa m.slots.length sc m.slots :: Sl RSlot none 0 0 ([] : List Slot) :: L) wide rfl rfl (by repeat (first | exact Ent.refl _ | (apply Ent.cons; (· repeat (first | exact Pick.here | (refine Pick.sl ?_; (· repeat (first | exact List.Mem.head _ | assumption | apply List.Mem.tail))) | apply Pick.there))) | (refine Ent.trans (Ent.drop _ _) ?_))) ?_
          refine RH.val 0 rfl krX krX krX krX (Wanted.free rfl) (V.move rfl rfl) rfl ?_
          refine RH.val 1 rfl krX krX krX krX (Wanted.free rfl) (V.move rfl rfl) rfl ?_
          refine RH.val 2 rfl krX krX krX krX (Wanted.free rfl) (V.slice (T := RSlot) (hi := x + i) rfl el23.slice rfl rfl ⟨_, _, rfl, (by first | rfl | omega)⟩ (by omega) (by omega)) rfl ?_
          refine RH.val 4 rfl krX krX krX krX (Wanted.free rfl) (V.fieldAddr rfl rfl fo50_7) rfl ?_
          refine RH.val 5 rfl krX krX krX krX (Wanted.free rfl) (V.load rfl on23 rfl pickX rfl) rfl ?_
          refine RH.val 6 rfl krX krX krX krX (Wanted.free rfl) (V.move rfl rfl) rfl ?_
          refine RH.val 7 rfl krX krX krX krX (Wanted.free rfl) (V.slice (T := RSlot) (lo := i) (hi := m.slots.length) rfl el23.slice rfl ⟨_, _, rfl, (by first | rfl | omega)⟩ rfl (by omega) (by omega)) rfl ?_
          refine RH.one (i := 3) krX ?_
          refine RHone.eff rfl (Wanted.free rfl) (E.call rfl go65 rfl (rcopied_ok (l := p.log.take (x + i)) memX (by rw [List.length_take]; omega))) rfl ?_
          rintro _ _ ⟨a91, c91, rfl, rfl⟩
          refine ⟨.inr entX, ?_⟩
          refine RH.one (i := 8) krX ?_
          refine RHone.eff rfl (Wanted.free rfl) (E.append (T := RSlot) rfl rfl rfl el23 el23.noInt rfl rfl pickX (Src.sl (l := m.slots.drop i) (by decide) memX) (by simp; omega) (by simp; omega)) rfl ?_
          intro _ _ hK168
          try rw [List.nil_append] at hK168
          try rw [Nat.zero_add] at hK168
          obtain ⟨a96, c96, rfl, rfl⟩ := hK168
          refine ⟨.inr entX, ?_⟩
          refine RH.val 9 rfl krX krX krX krX (Wanted.free rfl) (V.assign rfl rfl) rfl ?_
          refine RH.done krX ?_
          refine SG.exit rfl ?_
          refine SG.weaken (rest ⟨a96, (p.log.take (x + i)).length + (m.slots.drop i).length, c96⟩ trivial) ?_ ?_
          ·
           repeat (first | exact EnvLe.nil _ | refine EnvLe.cons rfl ?_)
          ·
           rw [hmg]
           exact entX
         ·
          refine RH.pure 17 rfl krX krX krX krX (Wanted.free rfl) (V.pick_false rfl rfl rfl) rfl ?_
          refine RH.done krX ?_
          refine SG.cond_false rfl ?_
          refine SG.skip ?_
          refine SG.inBlock ?_
          refine SG.region ?_
          refine RL.val (Wanted.free rfl) (V.move rfl rfl) rfl ?_
          refine RL.val (Wanted.free rfl) (V.bin rfl rfl rfl (B.addI (by omega) (by omega))) rfl ?_
          refine RL.val (Wanted.free rfl) (V.assign rfl rfl) rfl ?_
          refine RL.nil ?_
          refine SG.weaken (ih0 _ _ _ ?_ ⟨i + 1, a7, c7, by omega, by omega, ?_, rfl, rfl, rfl⟩) ?_ ?_
          ·
           omega
          ·
           intro j hj
           by_cases e : j = i
           ·
            subst e; exact ⟨_, _, List.getElem?_eq_getElem (by omega), List.getElem?_eq_getElem (by omega), by omega⟩
           ·
            exact hsame j (by omega)
          ·
           repeat (first | exact EnvLe.nil _ | refine EnvLe.cons rfl ?_)
          ·
           exact entX
       ·
        have hmg : merge p.log m.index.toNat m.slots = p.log := by rw [merge_at (i := m.slots.length) (by omega) (by rw [show m.index.toNat = x from by omega]; intro j hj; exact hsame j (by omega)), merge_all]
        refine RL.nil ?_
        refine SG.cond_false rfl ?_
        refine SG.exit rfl ?_
        refine SG.weaken (rest ⟨a7, p.log.length, c7⟩ trivial) ?_ ?_
        ·
         repeat (first | exact EnvLe.nil _ | refine EnvLe.cons rfl ?_)
        ·
         rw [hmg]
         exact entX
    ·
     refine RH.val 10 rfl krX krX krX krX (Wanted.yes rfl rfl rfl rfl) (V.move rfl rfl) rfl ?_
     refine RH.skip 11 rfl krX krX krX krX (Wanted.no rfl rfl rfl rfl rfl) rfl ?_
     refine RH.skip 12 rfl krX krX krX krX (Wanted.no rfl rfl rfl rfl rfl) rfl ?_
     refine RH.skip 13 rfl krX krX krX krX (Wanted.no rfl rfl rfl rfl rfl) rfl ?_
     refine RH.skip 14 rfl krX krX krX krX (Wanted.no rfl rfl rfl rfl rfl) rfl ?_
     refine RH.skip 15 rfl krX krX krX krX (Wanted.no rfl rfl rfl rfl rfl) rfl ?_
     refine RH.skip 16 rfl krX krX krX krX (Wanted.no rfl rfl rfl rfl rfl) rfl ?_
     refine RH.skip 17 rfl krX krX krX krX (Wanted.no rfl rfl rfl rfl rfl) rfl ?_
     refine RH.skip 18 rfl krX krX krX krX (Wanted.no rfl rfl rfl rfl rfl) rfl ?_
     refine RH.pure 19 rfl krX krX krX krX (Wanted.yes rfl rfl rfl rfl) (V.pick_false rfl rfl rfl) rfl ?_
     refine RH.pure 20 rfl krX krX krX krX (Wanted.free rfl) (V.pick_false rfl rfl rfl) rfl ?_
     refine RH.done krX ?_
     refine SG.cond_false rfl ?_
     refine SG.skip ?_
     refine SG.seq ?_
     have hst : Rp.store p m = (storeP (followP p) m, [yesM p m]) := by rw [Rp.store, if_neg hst1, if_neg (by unfold misses; omega)]
     have hle : m.index ≤ p.log.length := by omega
     obtain ⟨x, hx⟩ := Int.eq_ofNat_of_zero_le hx0
     rw [hst]
     refine SG.region ?_
     refine RL.val (Wanted.free rfl) (V.fieldAddr rfl rfl fo26_6) rfl ?_
     refine RL.val (Wanted.free rfl) (V.load rfl on23 rfl pickX rfl) rfl ?_
     refine RL.eff (Wanted.free rfl) (E.call rfl go65 rfl (rcopied_ok (l := p.log) memX (by omega))) rfl ?_
     rintro _ _ ⟨a58, c58, rfl, rfl⟩
     refine RL.val (Wanted.free rfl) (V.assign rfl rfl) rfl ?_
     refine RL.nil ?_
     refine SG.seq ?_
     refine SG.seq ?_
     refine SG.region ?_
     refine RL.val (Wanted.free rfl) (V.assign rfl rfl) rfl ?_
     refine RL.nil ?_
     refine SG.join (ι := Option Addr × Nat × Nat) (fun ⟨ja, jn, jc⟩ => [(2, ptr b2 0), (3, ptr b3 0), (4, ptr b4 0), (7, .slice ja jn jc)]) (fun ⟨ja, jn, jc⟩ => Buf RSlot 53 ja jn jc (merge p.log m.index.toNat m.slots) :: Blk b2 26 (pv (followP p) (.slice ka p.log.length kc) (.slice none 0 0) (.slice xa xn xc)) :: Blk b3 50 (mv m (.slice sa m.slots.length sc)) :: Blk b4 26 [.int .i64 0, .int .i64 0, .int .i64 0, .int .i64 0, .int .i64 0, .int .i64 0, .slice none 0 0, .slice none 0 0, .slice none 0 0] :: Sl RSlot ka p.log.length kc p.log :: Sl RB none 0 0 ([] : List Bool) :: Sl RI xa xn xc p.mtch :: Sl RSlot sa m.slots.length sc m.slots :: Sl RSlot none 0 0 ([] : List Slot) :: L) (fun ⟨ja, jn, jc⟩ => True) ?_ (fun rest => ?_)
     ·
      rintro ⟨ja, jn, jc⟩ _
      try dsimp only
      refine SG.seq ?_
      refine SG.publish (T := RSlot) (a := ja) pickX ?_
      refine SG.region ?_
      refine RL.val (Wanted.free rfl) (V.move rfl rfl) rfl ?_
      refine RL.val (Wanted.free rfl) (V.fieldAddr rfl rfl fo26_6) rfl ?_
      refine RL.eff (Wanted.free rfl) (E.store1 rfl rfl rfl rfl rfl sz23 pickX rfl) rfl ?_
      rintro _ _ rfl
      refine RL.nil ?_
      refine SG.seq ?_
      refine SG.region ?_
      refine RL.val (Wanted.free rfl) (V.fieldAddr rfl rfl fo26_5) rfl ?_
      refine RL.val (Wanted.free rfl) (V.load rfl on3 rfl pickX rfl) rfl ?_
      refine RL.val (Wanted.free rfl) (V.fieldAddr rfl rfl fo50_6) rfl ?_
      refine RL.val (Wanted.free rfl) (V.load rfl on3 rfl pickX rfl) rfl ?_
      refine RL.val (Wanted.free rfl) (V.fieldAddr rfl rfl fo50_4) rfl ?_
      refine RL.val (Wanted.free rfl) (V.load rfl on3 rfl pickX rfl) rfl ?_
      refine RL.val (Wanted.free rfl) (V.fieldAddr rfl rfl fo50_7) rfl ?_
      refine RL.val (Wanted.free rfl) (V.load rfl on23 rfl pickX rfl) rfl ?_
      refine RL.val (Wanted.free rfl) (V.len rfl rfl el23.under rfl) rfl ?_
      refine RL.val (Wanted.free rfl) (V.bin rfl rfl rfl (B.addI (by omega) (by omega))) rfl ?_
      refine RL.val (Wanted.free rfl) (V.min rfl rfl rfl rfl) rfl ?_
      refine RL.val (Wanted.free rfl) (V.max rfl rfl rfl rfl) rfl ?_
      rw [mm_eq]
      refine RL.val (Wanted.free rfl) (V.fieldAddr rfl rfl fo26_5) rfl ?_
      refine RL.eff (Wanted.free rfl) (E.store1 rfl rfl rfl rfl rfl sz3 pickX rfl) rfl ?_
      rintro _ _ rfl
      refine RL.nil ?_
      refine SG.seq ?_
      refine SG.ent (RMsg.mk (m := yesM p m) (a := none) (n' := 0) (c := 0) memX) ?_
      refine SG.ent (RPeer.mk (p := (storeP (followP p) m)) (la := ja) (ln := jn) (lc := jc) (va := none) (vn := 0) (vc := 0) (ma := xa) (mn := xn) (mc := xc) memX memX memX) ?_
      refine SG.drawN 17 17 (Blk b2 26 (pv (storeP (followP p) m) (.slice ja jn jc) (.slice none 0 0) (.slice xa xn xc)) :: Blk b3 50 (mv m (.slice sa m.slots.length sc)) :: Rd RMsg (mv (yesM p m) (.slice none 0 0)) (yesM p m) :: Rd RPeer (pv (storeP (followP p) m) (.slice ja jn jc) (.slice none 0 0) (.slice xa xn xc)) (storeP (followP p) m) :: L) wide rfl rfl (by repeat (first | exact Ent.refl _ | (apply Ent.cons; (· repeat (first | exact Pick.here | (refine Pick.sl ?_; (· repeat (first | exact List.Mem.head _ | assumption | apply List.Mem.tail))) | apply Pick.there))) | (refine Ent.trans (Ent.drop _ _) ?_))) ?_
      refine RH.val 0 rfl krX krX krX krX (Wanted.free rfl) (V.loadAgg (us := pv (storeP (followP p) m) (.slice ja jn jc) (.slice none 0 0) (.slice xa xn xc)) rfl ag26 rfl pickX rfl rfl) rfl ?_
      refine RH.val 1 rfl krX krX krX krX (Wanted.free rfl) (V.fieldAddr rfl rfl fo26_0) rfl ?_
      refine RH.val 2 rfl krX krX krX krX (Wanted.free rfl) (V.load rfl on3 rfl pickX rfl) rfl ?_
      refine RH.val 3 rfl krX krX krX krX (Wanted.free rfl) (V.fieldAddr rfl rfl fo50_1) rfl ?_
      refine RH.val 4 rfl krX krX krX krX (Wanted.free rfl) (V.load rfl on3 rfl pickX rfl) rfl ?_
      refine RH.val 5 rfl krX krX krX krX (Wanted.free rfl) (V.fieldAddr rfl rfl fo26_2) rfl ?_
      refine RH.val 6 rfl krX krX krX krX (Wanted.free rfl) (V.load rfl on3 rfl pickX rfl) rfl ?_
      refine RH.val 7 rfl krX krX krX krX (Wanted.free rfl) (V.fieldAddr rfl rfl fo50_4) rfl ?_
      refine RH.val 8 rfl krX krX krX krX (Wanted.free rfl) (V.load rfl on3 rfl pickX rfl) rfl ?_
      refine RH.val 9 rfl krX krX krX krX (Wanted.free rfl) (V.fieldAddr rfl rfl fo50_7) rfl ?_
      refine RH.val 10 rfl krX krX krX krX (Wanted.free rfl) (V.load rfl on23 rfl pickX rfl) rfl ?_
      refine RH.val 11 rfl krX krX krX krX (Wanted.free rfl) (V.len rfl rfl el23.under rfl) rfl ?_
      refine RH.val 12 rfl krX krX krX krX (Wanted.free rfl) (V.bin rfl rfl rfl (B.addI (by omega) (by omega))) rfl ?_
      refine RH.val 13 rfl krX krX krX krX (Wanted.free rfl) (V.buildS [(0, _), (1, _), (2, _), (3, _), (4, _), (8, _)] rfl bs50 (by exact ⟨rfl, ⟨_, rfl, rfl⟩, ⟨rfl, ⟨_, rfl, rfl⟩, ⟨rfl, ⟨_, rfl, rfl⟩, ⟨rfl, ⟨_, rfl, rfl⟩, ⟨rfl, ⟨_, rfl, rfl⟩, ⟨rfl, ⟨_, rfl, rfl⟩, trivial⟩⟩⟩⟩⟩⟩) rfl) rfl ?_
      refine RH.two (i := 14) (j := 15) krX ?_ ?_
      ·
       refine RHone.eff rfl (Wanted.free rfl) (E.lit1 (mv (yesM p m) (.slice none 0 0)) rfl el35.slice ze50 rfl (by decide) (by decide) rfl rfl rfl) rfl ?_
       rintro _ _ ⟨b99, rfl, rfl⟩
       refine ⟨.inr entX, ?_⟩
       refine RH.one (i := 15) krX ?_
       refine RHone.eff rfl (Wanted.free rfl) (E.storeWhole rfl rfl rfl (by rfl) sz26 pickX pv_one (by rfl)) rfl ?_
       rintro _ _ rfl
       refine ⟨.inr entX, ?_⟩
       refine RH.val 16 rfl krX krX krX krX (Wanted.free rfl) (V.assign rfl rfl) rfl ?_
       refine RH.done krX ?_
       refine SG.ent (Buf.of_els (T := RMsg) (b := b99) (e := 50) (m := 1) (l := [_]) pickX rfl rfl (by decide) (fun z h H => Rep.rows.single (Rd.rep (T := RMsg) memX z h H))) ?_
       refine SG.publish (T := RMsg) (a := some ⟨b99, 0, none⟩) pickX ?_
       refine SG.retE (Ret.r2 Try.func77 rfl (.agg rfl ag26 pickX rfl rfl) (.tmp rfl)) ?_ ⟨_, _, _, rfl, rfl⟩
       exact entX
      ·
       refine RHone.eff rfl (Wanted.free rfl) (E.storeWhole rfl rfl rfl (by rfl) sz26 pickX pv_one (by rfl)) rfl ?_
       rintro _ _ rfl
       refine ⟨.inr entX, ?_⟩
       refine RH.one (i := 14) krX ?_
       refine RHone.eff rfl (Wanted.free rfl) (E.lit1 (mv (yesM p m) (.slice none 0 0)) rfl el35.slice ze50 rfl (by decide) (by decide) rfl rfl rfl) rfl ?_
       rintro _ _ ⟨b99, rfl, rfl⟩
       refine ⟨.inr entX, ?_⟩
       refine RH.val 16 rfl krX krX krX krX (Wanted.free rfl) (V.assign rfl rfl) rfl ?_
       refine RH.done krX ?_
       refine SG.ent (Buf.of_els (T := RMsg) (b := b99) (e := 50) (m := 1) (l := [_]) pickX rfl rfl (by decide) (fun z h H => Rep.rows.single (Rd.rep (T := RMsg) memX z h H))) ?_
       refine SG.publish (T := RMsg) (a := some ⟨b99, 0, none⟩) pickX ?_
       refine SG.retE (Ret.r2 Try.func77 rfl (.agg rfl ag26 pickX rfl rfl) (.tmp rfl)) ?_ ⟨_, _, _, rfl, rfl⟩
       exact entX
     ·
      refine SG.block ?_
      refine SG.weaken (SG.loop2 (fun m0 al M => ∃ (i : Nat) (a7 : Option Addr) (c7 : Nat), i ≤ m.slots.length ∧ x + i ≤ p.log.length ∧ (∀ j, j < i → ∃ y z, p.log[x + j]? = some y ∧ m.slots[j]? = some z ∧ y.term = z.term) ∧ m0 = m.slots.length - i ∧ al = [(2, ptr b2 0), (3, ptr b3 0), (4, ptr b4 0), (7, .slice a7 p.log.length c7), (8, vI i)] ∧ M = Buf RSlot 53 a7 p.log.length c7 p.log :: Blk b2 26 (pv (followP p) (.slice ka p.log.length kc) (.slice none 0 0) (.slice xa xn xc)) :: Blk b3 50 (mv m (.slice sa m.slots.length sc)) :: Blk b4 26 [.int .i64 0, .int .i64 0, .int .i64 0, .int .i64 0, .int .i64 0, .int .i64 0, .slice none 0 0, .slice none 0 0, .slice none 0 0] :: Sl RSlot ka p.log.length kc p.log :: Sl RB none 0 0 ([] : List Bool) :: Sl RI xa xn xc p.mtch :: Sl RSlot sa m.slots.length sc m.slots :: Sl RSlot none 0 0 ([] : List Slot) :: L) (m0 := _) ⟨0, a58, c58, by omega, by omega, fun j h => by omega, rfl, rfl, rfl⟩ ?_) ?_ ?_
      rotate_left
      ·
       repeat (first | exact EnvLe.nil _ | refine EnvLe.cons rfl ?_)
      ·
       exact entX
      rintro _ _ _ ⟨i, a7, c7, hi, hxi, hsame, rfl, rfl, rfl⟩ ih0
      refine SG.seq ?_
      refine SG.seq ?_
      refine SG.region ?_
      refine RL.val (Wanted.free rfl) (V.move rfl rfl) rfl ?_
      refine RL.val (Wanted.free rfl) (V.fieldAddr rfl rfl fo50_7) rfl ?_
      refine RL.val (Wanted.free rfl) (V.load rfl on23 rfl pickX rfl) rfl ?_
      refine RL.val (Wanted.free rfl) (V.len rfl rfl el23.under rfl) rfl ?_
      refine RL.cmp (Wanted.free rfl) (V.bin rfl rfl rfl B.lss) rfl (fun h220 => ?_) (fun h220 => ?_)
      ·
       refine RL.nil ?_
       refine SG.cond_true rfl ?_
       refine SG.skip ?_
       refine SG.seq ?_
       refine SG.block ?_
       refine SG.seq ?_
       refine SG.elemDt (a := sa) (l := m.slots) memX (show m.slots[i]? = some (m.slots[i]'(by omega)) from List.getElem?_eq_getElem (by omega)) fun _ => ?_
       refine SG.region ?_
       refine RL.val (Wanted.free rfl) (V.fieldAddr rfl rfl fo50_4) rfl ?_
       refine RL.val (Wanted.free rfl) (V.load rfl on3 rfl pickX rfl) rfl ?_
       refine RL.val (Wanted.free rfl) (V.move rfl rfl) rfl ?_
       refine RL.val (Wanted.free rfl) (V.bin rfl rfl rfl (B.addI (by omega) (by omega))) rfl ?_
       refine RL.val (Wanted.free rfl) (V.assign rfl rfl) rfl ?_
       refine RL.nil ?_
       refine SG.seq ?_
       refine SG.drawL 18 18 wide rfl rfl ?_
       refine RH.val 0 rfl krX krX krX krX (Wanted.free rfl) (V.move rfl rfl) rfl ?_
       refine RH.val 1 rfl krX krX krX krX (Wanted.free rfl) (V.move rfl rfl) rfl ?_
       refine RH.val 2 rfl krX krX krX krX (Wanted.free rfl) (V.len rfl rfl el23.under rfl) rfl ?_
       refine RH.cmp 3 rfl krX krX krX krX (Wanted.free rfl) (V.bin rfl rfl rfl B.geq) rfl (fun h229 => ?_) (fun h229 => ?_)
       ·
        refine RH.val 4 rfl krX krX krX krX (Wanted.free rfl) (V.move rfl rfl) rfl ?_
        refine RH.skip 5 rfl krX krX krX krX (Wanted.no rfl rfl rfl rfl rfl) rfl ?_
        refine RH.skip 6 rfl krX krX krX krX (Wanted.no rfl rfl rfl rfl rfl) rfl ?_
        refine RH.skip 7 rfl krX krX krX krX (Wanted.no rfl rfl rfl rfl rfl) rfl ?_
        refine RH.skip 8 rfl krX krX krX krX (Wanted.no rfl rfl rfl rfl rfl) rfl ?_
        refine RH.skip 9 rfl krX krX krX krX (Wanted.no rfl rfl rfl rfl rfl) rfl ?_
        refine RH.skip 10 rfl krX krX krX krX (Wanted.no rfl rfl rfl rfl rfl) rfl ?_
        refine RH.skip 11 rfl krX krX krX krX (Wanted.no rfl rfl rfl rfl rfl) rfl ?_
        refine RH.skip 12 rfl krX krX krX krX (Wanted.no rfl rfl rfl rfl rfl) rfl ?_
        refine RH.skip 13 rfl krX krX krX krX (Wanted.no rfl rfl rfl rfl rfl) rfl ?_
        refine RH.skip 14 rfl krX krX krX krX (Wanted.no rfl rfl rfl rfl rfl) rfl ?_
        refine RH.skip 15 rfl krX krX krX krX (Wanted.no rfl rfl rfl rfl rfl) rfl ?_
        refine RH.skip 16 rfl krX krX krX krX (Wanted.no rfl rfl rfl rfl rfl) rfl ?_
        refine RH.pure 17 rfl krX krX krX krX (Wanted.free rfl) (V.pick_true rfl rfl rfl) rfl ?_
        refine RH.done krX ?_
        refine SG.cond_true rfl ?_
        refine SG.seq ?_
        have hmg : merge p.log m.index.toNat m.slots = p.log.take (x + i) ++ m.slots.drop i := by rw [merge_at (i := i) (by omega) (by rw [show m.index.toNat = x from by omega]; exact hsame), show m.index.toNat = x from by omega]; exact merge_stop (by omega) (by first | (left; omega) | (right; exact ⟨by omega, by omega⟩))
        refine SG.publish (T := RSlot) (a := a7) pickX ?_
        refine SG.sl (T := RSlot) (a := a7) (l := p.log) memX fun _ hc7 _ => ?_
        refine SG.cut (lo := 0) (hi := x + i) (l' := p.log.take (x + i)) (a := a7) (T := RSlot) memX (by omega) (by omega) (by simp) ?_
        refine SG.cut (lo := i) (hi := m.slots.length) (l' := m.slots.drop i) (a := sa) (T := RSlot) memX (by omega) (by omega) (List.take_of_length_le (by simp)) ?_
        refine SG.drawN 10 10 (Blk b3 50 (mv m (.slice sa m.slots.length sc)) :: Sl RSlot (cutA a7 0 2 c7) (x + i - 0) (c7 - 0) (p.log.take (x + i)) :: Sl RSlot (cutA sa i 2 sc) (m.slots.length - i) (sc - i) (m.slots.drop i) :: Blk b2 26 (pv (followP p) (.slice ka p.log.length kc) (.slice none 0 0) (.slice xa xn xc)) :: Blk b4 26 [.int .i64 0, .int .i64 0, .int .i64 0, .int .i64 0, .int .i64 0, .int .i64 0, .slice none 0 0, .slice none 0 0, .slice none 0 0] :: Sl RSlot ka p.log.length kc p.log :: Sl RB none 0 0 ([] : List Bool) :: Sl RI xa xn xc p.mtch :: Sl RSlot sa m.slots.length sc m.slots :: Sl RSlot none 0 0 ([] : List Slot) :: L) wide rfl rfl (by repeat (first | exact Ent.refl _ | (apply Ent.cons; (· repeat (first | exact Pick.here | (refine Pick.sl ?_; (· repeat (first | exact List.Mem.head _ | assumption | apply List.Mem.tail))) | apply Pick.there))) | (refine Ent.trans (Ent.drop _ _) ?_))) ?_
        refine RH.val 0 rfl krX krX krX krX (Wanted.free rfl) (V.move rfl rfl) rfl ?_
        refine RH.val 1 rfl krX krX krX krX (Wanted.free rfl) (V.move rfl rfl) rfl ?_
        refine RH.val 2 rfl krX krX krX krX (Wanted.free rfl) (V.slice (T := RSlot) (hi := x + i) rfl el23.slice rfl rfl ⟨_, _, rfl, (by first | rfl | omega)⟩ (by omega) (by omega)) rfl ?_
        refine RH.val 4 rfl krX krX krX krX (Wanted.free rfl) (V.fieldAddr rfl rfl fo50_7) rfl ?_
        refine RH.val 5 rfl krX krX krX krX (Wanted.free rfl) (V.load rfl on23 rfl pickX rfl) rfl ?_
        refine RH.val 6 rfl krX krX krX krX (Wanted.free rfl) (V.move rfl rfl) rfl ?_
        refine RH.val 7 rfl krX krX krX krX (Wanted.free rfl) (V.slice (T := RSlot) (lo := i) (hi := m.slots.length) rfl el23.slice rfl ⟨_, _, rfl, (by first | rfl | omega)⟩ rfl (by omega) (by omega)) rfl ?_
        refine RH.one (i := 3) krX ?_
        refine RHone.eff rfl (Wanted.free rfl) (E.call rfl go65 rfl (rcopied_ok (l := p.log.take (x + i)) memX (by rw [List.length_take]; omega))) rfl ?_
        rintro _ _ ⟨a91, c91, rfl, rfl⟩
        refine ⟨.inr entX, ?_⟩
        refine RH.one (i := 8) krX ?_
        refine RHone.eff rfl (Wanted.free rfl) (E.append (T := RSlot) rfl rfl rfl el23 el23.noInt rfl rfl pickX (Src.sl (l := m.slots.drop i) (by decide) memX) (by simp; omega) (by simp; omega)) rfl ?_
        intro _ _ hK239
        try rw [List.nil_append] at hK239
        try rw [Nat.zero_add] at hK239
        obtain ⟨a96, c96, rfl, rfl⟩ := hK239
        refine ⟨.inr entX, ?_⟩
        refine RH.val 9 rfl krX krX krX krX (Wanted.free rfl) (V.assign rfl rfl) rfl ?_
        refine RH.done krX ?_
        refine SG.exit rfl ?_
        refine SG.weaken (rest ⟨a96, (p.log.take (x + i)).length + (m.slots.drop i).length, c96⟩ trivial) ?_ ?_
        ·
         repeat (first | exact EnvLe.nil _ | refine EnvLe.cons rfl ?_)
        ·
         rw [hmg]
         exact entX
       ·
        refine RH.val 4 rfl krX krX krX krX (Wanted.free rfl) (V.move rfl rfl) rfl ?_
        refine RH.val 5 rfl krX krX krX krX (Wanted.yes rfl rfl rfl rfl) (V.move rfl rfl) rfl ?_
        refine RH.val 6 rfl krX krX krX krX (Wanted.yes rfl rfl rfl rfl) (V.move rfl rfl) rfl ?_
        refine RH.val 7 rfl krX krX krX krX (Wanted.yes rfl rfl rfl rfl) (V.indexBuf (j := x + i) rfl el23.slice rfl rfl pickX (by first | rfl | omega) (by omega)) rfl ?_
        refine RH.val 8 rfl krX krX krX krX (Wanted.yes rfl rfl rfl rfl) (V.fieldBuf (j := x + i) rfl rfl fo53_0 pickX (by omega)) rfl ?_
        refine RH.val 9 rfl krX krX krX krX (Wanted.yes rfl rfl rfl rfl) (V.loadBufDtF (j := x + i) rfl on3 rfl pickX (List.getElem?_eq_getElem (by omega)) rfl) rfl ?_
        refine RH.val 10 rfl krX krX krX krX (Wanted.yes rfl rfl rfl rfl) (V.fieldAddr rfl rfl fo50_7) rfl ?_
        refine RH.val 11 rfl krX krX krX krX (Wanted.yes rfl rfl rfl rfl) (V.load rfl on23 rfl pickX rfl) rfl ?_
        refine RH.val 12 rfl krX krX krX krX (Wanted.yes rfl rfl rfl rfl) (V.move rfl rfl) rfl ?_
        refine RH.val 13 rfl krX krX krX krX (Wanted.yes rfl rfl rfl rfl) (V.indexSl (T := RSlot) (a := sa) (l := m.slots) (j := i) rfl el23.slice rfl rfl memX rfl (by omega)) rfl ?_
        refine RH.val 14 rfl krX krX krX krX (Wanted.yes rfl rfl rfl rfl) (V.fieldAt rfl rfl fo53_0 memX) rfl ?_
        refine RH.val 15 rfl krX krX krX krX (Wanted.yes rfl rfl rfl rfl) (V.loadAtF rfl on3 rfl memX rfl) rfl ?_
        refine RH.cmp 16 rfl krX krX krX krX (Wanted.yes rfl rfl rfl rfl) (V.bin rfl rfl rfl B.neq) rfl (fun h253 => ?_) (fun h253 => ?_)
        ·
         refine RH.pure 17 rfl krX krX krX krX (Wanted.free rfl) (V.pick_false rfl rfl rfl) rfl ?_
         refine RH.done krX ?_
         refine SG.cond_true rfl ?_
         refine SG.seq ?_
         have hmg : merge p.log m.index.toNat m.slots = p.log.take (x + i) ++ m.slots.drop i := by rw [merge_at (i := i) (by omega) (by rw [show m.index.toNat = x from by omega]; exact hsame), show m.index.toNat = x from by omega]; exact merge_stop (by omega) (by first | (left; omega) | (right; exact ⟨by omega, by omega⟩))
         refine SG.publish (T := RSlot) (a := a7) pickX ?_
         refine SG.sl (T := RSlot) (a := a7) (l := p.log) memX fun _ hc7 _ => ?_
         refine SG.cut (lo := 0) (hi := x + i) (l' := p.log.take (x + i)) (a := a7) (T := RSlot) memX (by omega) (by omega) (by simp) ?_
         refine SG.cut (lo := i) (hi := m.slots.length) (l' := m.slots.drop i) (a := sa) (T := RSlot) memX (by omega) (by omega) (List.take_of_length_le (by simp)) ?_
         refine SG.drawN 10 10 (Blk b3 50 (mv m (.slice sa m.slots.length sc)) :: Sl RSlot (cutA a7 0 2 c7) (x + i - 0) (c7 - 0) (p.log.take (x + i)) :: Sl RSlot (cutA sa i 2 sc) (m.slots.length - i) (sc - i) (m.slots.drop i) :: Blk b2 26 (pv (followP p) (.slice ka p.log.length kc) (.slice none 0 0) (.slice xa xn xc)) :: Blk b4 26 [.int .i64 0, .int .i64 0, .int .i64 0, .int .i64 0, .int .i64 0, .int .i64 0, .slice none 0 0, .slice none 0 0, .slice none 0 0] :: Sl RSlot ka p.log.length kc p.log :: Sl RB none 0 0 ([] : List Bool) :: Sl RI xa xn xc p.mtch :: Sl RSlot sa m.slots.length sc m.slots :: Sl RSlot none 0 0 ([] : List Slot) :: L) wide rfl rfl (by repeat (first | exact Ent.refl _ | (apply Ent.cons; (· repeat (first | exact Pick.here | (refine Pick.sl ?_; (· repeat (first | exact List.Mem.head _ | assumption | apply List.Mem.tail))) | apply Pick.there))) | (refine Ent.trans (Ent.drop _ _) ?_))) ?_
         refine RH.val 0 rfl krX krX krX krX (Wanted.free rfl) (V.move rfl rfl) rfl ?_
         refine RH.val 1 rfl krX krX krX krX (Wanted.free rfl) (V.move rfl rfl) rfl ?_
         refine RH.val 2 rfl krX krX krX krX (Wanted.free rfl) (V.slice (T := RSlot) (hi := x + i) rfl el23.slice rfl rfl ⟨_, _, rfl, (by first | rfl | omega)⟩ (by omega) (by omega)) rfl ?_
         refine RH.val 4 rfl krX krX krX krX (Wanted.free rfl) (V.fieldAddr rfl rfl fo50_7) rfl ?_
         refine RH.val 5 rfl krX krX krX krX (Wanted.free rfl) (V.load rfl on23 rfl pickX rfl) rfl ?_
         refine RH.val 6 rfl krX krX krX krX (Wanted.free rfl) (V.move rfl rfl) rfl ?_
         refine RH.val 7 rfl krX krX krX krX (Wanted.free rfl) (V.slice (T := RSlot) (lo := i) (hi := m.slots.length) rfl el23.slice rfl ⟨_, _, rfl, (by first | rfl | omega)⟩ rfl (by omega) (by omega)) rfl ?_
         refine RH.one (i := 3) krX ?_
         refine RHone.eff rfl (Wanted.free rfl) (E.call rfl go65 rfl (rcopied_ok (l := p.log.take (x + i)) memX (by rw [List.length_take]; omega))) rfl ?_
         rintro _ _ ⟨a91, c91, rfl, rfl⟩
         refine ⟨.inr entX, ?_⟩
         refine RH.one (i := 8) krX ?_
         refine RHone.eff rfl (Wanted.free rfl) (E.append (T := RSlot) rfl rfl rfl el23 el23.noInt rfl rfl pickX (Src.sl (l := m.slots.drop i) (by decide) memX) (by simp; omega) (by simp; omega)) rfl ?_
         intro _ _ hK262
         try rw [List.nil_append] at hK262
         try rw [Nat.zero_add] at hK262
         obtain ⟨a96, c96, rfl, rfl⟩ := hK262
         refine ⟨.inr entX, ?_⟩
         refine RH.val 9 rfl krX krX krX krX (Wanted.free rfl) (V.assign rfl rfl) rfl ?_
         refine RH.done krX ?_
         refine SG.exit rfl ?_
         refine SG.weaken (rest ⟨a96, (p.log.take (x + i)).length + (m.slots.drop i).length, c96⟩ trivial) ?_ ?_
         ·
          repeat (first | exact EnvLe.nil _ | refine EnvLe.cons rfl ?_)
         ·
          rw [hmg]
          exact entX
        ·
         refine RH.pure 17 rfl krX krX krX krX (Wanted.free rfl) (V.pick_false rfl rfl rfl) rfl ?_
         refine RH.done krX ?_
         refine SG.cond_false rfl ?_
         refine SG.skip ?_
         refine SG.inBlock ?_
         refine SG.region ?_
         refine RL.val (Wanted.free rfl) (V.move rfl rfl) rfl ?_
         refine RL.val (Wanted.free rfl) (V.bin rfl rfl rfl (B.addI (by omega) (by omega))) rfl ?_
         refine RL.val (Wanted.free rfl) (V.assign rfl rfl) rfl ?_
         refine RL.nil ?_
         refine SG.weaken (ih0 _ _ _ ?_ ⟨i + 1, a7, c7, by omega, by omega, ?_, rfl, rfl, rfl⟩) ?_ ?_
         ·
          omega
         ·
          intro j hj
          by_cases e : j = i
          ·
           subst e; exact ⟨_, _, List.getElem?_eq_getElem (by omega), List.getElem?_eq_getElem (by omega), by omega⟩
          ·
           exact hsame j (by omega)
         ·
          repeat (first | exact EnvLe.nil _ | refine EnvLe.cons rfl ?_)
         ·
          exact entX
      ·
       have hmg : merge p.log m.index.toNat m.slots = p.log := by rw [merge_at (i := m.slots.length) (by omega) (by rw [show m.index.toNat = x from by omega]; intro j hj; exact hsame j (by omega)), merge_all]
       refine RL.nil ?_
       refine SG.cond_false rfl ?_
       refine SG.exit rfl ?_
       refine SG.weaken (rest ⟨a7, p.log.length, c7⟩ trivial) ?_ ?_
       ·
        repeat (first | exact EnvLe.nil _ | refine EnvLe.cons rfl ?_)
       ·
        rw [hmg]
        exact entX

end Go.Proofs.Ytilcnglcflohoaa
