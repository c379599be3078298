/- Handle. -/
import Derived.Test.YtilcnglcflohoaaStore
namespace Go.Proofs.Ytilcnglcflohoaa
open Go.Wk Go.Rp

/-- What a node must be that a message may come to. -/
structure POk (p : Peer) : Prop where
  n1 : 1 ≤ p.nodes
  n5 : p.nodes ≤ 5
  i0 : 0 ≤ p.id
  i1 : p.id < p.nodes
  t0 : 0 ≤ p.term
  t1 : p.term ≤ 1000000
  ll : p.log.length ≤ 900000
  lv : p.votes.length ≤ 1000
  lm : p.mtch.length ≤ 1000
  vn : p.role = 1 → p.votes.length = p.nodes.toNat
  mn : p.role = 2 → p.mtch.length = p.nodes.toNat
  c0 : 0 ≤ p.commit
  c1 : p.commit ≤ p.log.length
  mm : ∀ m ∈ p.mtch, 0 ≤ m ∧ m ≤ (p.log.length : Int)
  dd : ∀ x ∈ p.log, x.data.length ≤ 1000000
structure MOk (m : Msg) : Prop where
  t0 : 0 ≤ m.term
  t1 : m.term ≤ 1000000
  x0 : 0 ≤ m.index
  x1 : m.index ≤ 1000000
  s1 : m.slots.length ≤ 1000000
theorem raised_ok {p : Peer} (h : POk p) {m : Msg} (hm : MOk m) : POk (Rp.raised p m) := by
  unfold Rp.raised
  split
  · exact { n1 := h.n1, n5 := h.n5, i0 := h.i0, i1 := h.i1, t0 := hm.t0, t1 := hm.t1, ll := h.ll, lv := Nat.zero_le _, lm := Nat.zero_le _, vn := fun e => (by cases e), mn := fun e => (by cases e), c0 := h.c0, c1 := h.c1, mm := fun m hm => (by cases hm), dd := h.dd }
  · exact h
theorem raised_id (p : Peer) (m : Msg) : (Rp.raised p m).id = p.id ∧ (Rp.raised p m).nodes = p.nodes := by
  unfold Rp.raised; split <;> exact ⟨rfl, rfl⟩
theorem raised_yes {p : Peer} {m : Msg} (h : p.term < m.term) : Rp.raised p m = down p m.term := if_pos h
theorem raised_no {p : Peer} {m : Msg} (h : ¬ p.term < m.term) : Rp.raised p m = p := if_neg h
set_option maxRecDepth 100000 in
theorem handle_strange {κ : World} {L : List Assn} {us ms : List Value} {p : Peer} {m : Msg} (hm : Rd RPeer us p ∈ L) (hmm : Rd RMsg ms m ∈ L) (ho : POk p) (hmo : MOk m) (hs : strange p m) :
    Ctr Try.prog 30 #[.agg us.toArray, .agg ms.toArray] κ L (fun v M => ∃ us' a c, v = .tuple #[.agg us'.toArray, .slice a (handle p m).2.length c] ∧ M = Rd RPeer us' (handle p m).1 :: Sl RMsg a (handle p m).2.length c (handle p m).2 :: L) := by
 refine Ctr.enter (vs := [.agg us.toArray, .agg ms.toArray]) (m := 118) Try.func30 rfl rfl rfl ?_
 refine SG.openPeer (Pick.rd hm) fun ka kn kc wa wn wc xa xn xc hus => ?_
 subst hus
 refine SG.openMsg (Pick.rd (show Rd RMsg ms m ∈ _ from memX)) fun sa sn sc hms => ?_
 subst hms
 obtain ⟨n1, n5, i0, i1, t0, t1, ll, lv, lm, vn, mn, c0, c1, mm, dd⟩ := id ho
 have hm0 := hmo.t0
 have hm1 := hmo.t1
 rw [show handle p m = (p, []) from if_pos hs]
 unfold strange at hs
 refine SG.seq ?_
 refine SG.region ?_
 refine RL.eff (Wanted.free rfl) (E.box _ rfl rfl rfl) rfl ?_
 rintro _ _ ⟨b2, rfl, rfl⟩
 refine RL.eff (Wanted.free rfl) (E.box _ rfl rfl rfl) rfl ?_
 rintro _ _ ⟨b3, rfl, rfl⟩
 refine RL.eff (Wanted.free rfl) (E.alloc rfl ze26) rfl ?_
 rintro _ _ ⟨b4, rfl, rfl⟩
 refine RL.val (Wanted.free rfl) (V.assign rfl rfl) rfl ?_
 refine RL.nil ?_
 refine SG.seq ?_
 refine SG.region ?_
 refine RL.val (Wanted.free rfl) (V.loadAgg (us := pv p (.slice ka kn kc) (.slice wa wn wc) (.slice xa xn xc)) rfl ag26 rfl pickX rfl rfl) rfl ?_
 refine RL.eff (Wanted.free rfl) (E.call rfl go57 rfl (copied_ok (us := pv p (.slice ka kn kc) (.slice wa wn wc) (.slice xa xn xc)) (p := p) memX (by omega) (by omega) (by omega))) rfl ?_
 rintro _ _ ⟨b9, rfl, rfl⟩
 refine RL.val (Wanted.free rfl) (V.assign rfl rfl) rfl ?_
 refine RL.nil ?_
 refine SG.seq ?_
 refine SG.seq ?_
 refine SG.region ?_
 refine RL.val (Wanted.free rfl) (V.fieldAddr rfl rfl fo50_2) rfl ?_
 refine RL.val (Wanted.free rfl) (V.load rfl on3 rfl pickX rfl) rfl ?_
 refine RL.val (Wanted.free rfl) (V.fieldAddr rfl rfl fo26_0) rfl ?_
 refine RL.val (Wanted.free rfl) (V.load rfl on3 rfl pickX rfl) rfl ?_
 refine RL.cmp (Wanted.free rfl) (V.bin rfl rfl rfl B.neq) rfl (fun h12 => ?_) (fun h12 => ?_)
 ·
  refine RL.val (Wanted.free rfl) (V.move rfl rfl) rfl ?_
  refine RL.skip (Wanted.no rfl rfl rfl rfl rfl) rfl ?_
  refine RL.skip (Wanted.no rfl rfl rfl rfl rfl) rfl ?_
  refine RL.skip (Wanted.no rfl rfl rfl rfl rfl) rfl ?_
  refine RL.val (Wanted.free rfl) (V.pick_true rfl rfl rfl) rfl ?_
  refine RL.val (Wanted.free rfl) (V.move rfl rfl) rfl ?_
  refine RL.skip (Wanted.no rfl rfl rfl rfl rfl) rfl ?_
  refine RL.skip (Wanted.no rfl rfl rfl rfl rfl) rfl ?_
  refine RL.skip (Wanted.no rfl rfl rfl rfl rfl) rfl ?_
  refine RL.skip (Wanted.no rfl rfl rfl rfl rfl) rfl ?_
  refine RL.skip (Wanted.no rfl rfl rfl rfl rfl) rfl ?_
  refine RL.val (Wanted.free rfl) (V.pick_true rfl rfl rfl) rfl ?_
  refine RL.val (Wanted.free rfl) (V.move rfl rfl) rfl ?_
  refine RL.skip (Wanted.no rfl rfl rfl rfl rfl) rfl ?_
  refine RL.skip (Wanted.no rfl rfl rfl rfl rfl) rfl ?_
  refine RL.skip (Wanted.no rfl rfl rfl rfl rfl) rfl ?_
  refine RL.skip (Wanted.no rfl rfl rfl rfl rfl) rfl ?_
  refine RL.skip (Wanted.no rfl rfl rfl rfl rfl) rfl ?_
  refine RL.val (Wanted.free rfl) (V.pick_true rfl rfl rfl) rfl ?_
  refine RL.val (Wanted.free rfl) (V.move rfl rfl) rfl ?_
  refine RL.skip (Wanted.no rfl rfl rfl rfl rfl) rfl ?_
  refine RL.skip (Wanted.no rfl rfl rfl rfl rfl) rfl ?_
  refine RL.skip (Wanted.no rfl rfl rfl rfl rfl) rfl ?_
  refine RL.val (Wanted.free rfl) (V.pick_true rfl rfl rfl) rfl ?_
  refine RL.val (Wanted.free rfl) (V.move rfl rfl) rfl ?_
  refine RL.skip (Wanted.no rfl rfl rfl rfl rfl) rfl ?_
  refine RL.skip (Wanted.no rfl rfl rfl rfl rfl) rfl ?_
  refine RL.skip (Wanted.no rfl rfl rfl rfl rfl) rfl ?_
  refine RL.val (Wanted.free rfl) (V.pick_true rfl rfl rfl) rfl ?_
  refine RL.nil ?_
  refine SG.cond_true rfl ?_
  refine SG.seq ?_
  refine SG.openNd Pick.here fun la ln lc va vn vc ma mn mc oa on oc => ?_
  refine SG.publish (T := RSlot) (a := la) pickX ?_
  refine SG.publish (T := RB) (a := va) pickX ?_
  refine SG.publish (T := RI) (a := ma) pickX ?_
  refine SG.ent (RPeer.mk (p := p) memX memX memX) ?_
  refine SG.ent (Sl.nil (T := RMsg)) ?_
  refine SG.region ?_
  refine RL.val (Wanted.free rfl) (V.move rfl rfl) rfl ?_
  refine RL.val (Wanted.free rfl) (V.nilCheck rfl rfl) rfl ?_
  refine RL.val (Wanted.free rfl) (V.fieldAddr rfl rfl fo94_0) rfl ?_
  refine RL.val (Wanted.free rfl) (V.loadAgg (us := pv p (.slice la ln lc) (.slice va vn vc) (.slice ma mn mc)) rfl ag26 rfl pickX rfl rfl) rfl ?_
  refine RL.eff (Wanted.free rfl) (E.storeWhole rfl rfl rfl (by rfl) sz26 pickX pv_one (by rfl)) rfl ?_
  rintro _ _ rfl
  refine RL.val (Wanted.free rfl) (V.assign rfl rfl) rfl ?_
  refine RL.nil ?_
  refine SG.retE (Ret.r2 Try.func30 rfl (.agg rfl ag26 pickX rfl rfl) (.tmp rfl)) ?_ ⟨_, _, _, rfl, rfl⟩
  exact entX
 ·
  refine RL.val (Wanted.free rfl) (V.move rfl rfl) rfl ?_
  refine RL.val (Wanted.yes rfl rfl rfl rfl) (V.fieldAddr rfl rfl fo50_1) rfl ?_
  refine RL.val (Wanted.yes rfl rfl rfl rfl) (V.load rfl on3 rfl pickX rfl) rfl ?_
  refine RL.cmp (Wanted.yes rfl rfl rfl rfl) (V.bin rfl rfl rfl B.lss) rfl (fun h27 => ?_) (fun h27 => ?_)
  ·
   refine RL.val (Wanted.free rfl) (V.pick_false rfl rfl rfl) rfl ?_
   refine RL.val (Wanted.free rfl) (V.move rfl rfl) rfl ?_
   refine RL.skip (Wanted.no rfl rfl rfl rfl rfl) rfl ?_
   refine RL.skip (Wanted.no rfl rfl rfl rfl rfl) rfl ?_
   refine RL.skip (Wanted.no rfl rfl rfl rfl rfl) rfl ?_
   refine RL.skip (Wanted.no rfl rfl rfl rfl rfl) rfl ?_
   refine RL.skip (Wanted.no rfl rfl rfl rfl rfl) rfl ?_
   refine RL.val (Wanted.free rfl) (V.pick_true rfl rfl rfl) rfl ?_
   refine RL.val (Wanted.free rfl) (V.move rfl rfl) rfl ?_
   refine RL.skip (Wanted.no rfl rfl rfl rfl rfl) rfl ?_
   refine RL.skip (Wanted.no rfl rfl rfl rfl rfl) rfl ?_
   refine RL.skip (Wanted.no rfl rfl rfl rfl rfl) rfl ?_
   refine RL.skip (Wanted.no rfl rfl rfl rfl rfl) rfl ?_
   refine RL.skip (Wanted.no rfl rfl rfl rfl rfl) rfl ?_
   refine RL.val (Wanted.free rfl) (V.pick_true rfl rfl rfl) rfl ?_
   refine RL.val (Wanted.free rfl) (V.move rfl rfl) rfl ?_
   refine RL.skip (Wanted.no rfl rfl rfl rfl rfl) rfl ?_
   refine RL.skip (Wanted.no rfl rfl rfl rfl rfl) rfl ?_
   refine RL.skip (Wanted.no rfl rfl rfl rfl rfl) rfl ?_
   refine RL.val (Wanted.free rfl) (V.pick_true rfl rfl rfl) rfl ?_
   refine RL.val (Wanted.free rfl) (V.move rfl rfl) rfl ?_
   refine RL.skip (Wanted.no rfl rfl rfl rfl rfl) rfl ?_
   refine RL.skip (Wanted.no rfl rfl rfl rfl rfl) rfl ?_
   refine RL.skip (Wanted.no rfl rfl rfl rfl rfl) rfl ?_
   refine RL.val (Wanted.free rfl) (V.pick_true rfl rfl rfl) rfl ?_
   refine RL.nil ?_
   refine SG.cond_true rfl ?_
   refine SG.seq ?_
   refine SG.openNd Pick.here fun la ln lc va vn vc ma mn mc oa on oc => ?_
   refine SG.publish (T := RSlot) (a := la) pickX ?_
   refine SG.publish (T := RB) (a := va) pickX ?_
   refine SG.publish (T := RI) (a := ma) pickX ?_
   refine SG.ent (RPeer.mk (p := p) memX memX memX) ?_
   refine SG.ent (Sl.nil (T := RMsg)) ?_
   refine SG.region ?_
   refine RL.val (Wanted.free rfl) (V.move rfl rfl) rfl ?_
   refine RL.val (Wanted.free rfl) (V.nilCheck rfl rfl) rfl ?_
   refine RL.val (Wanted.free rfl) (V.fieldAddr rfl rfl fo94_0) rfl ?_
   refine RL.val (Wanted.free rfl) (V.loadAgg (us := pv p (.slice la ln lc) (.slice va vn vc) (.slice ma mn mc)) rfl ag26 rfl pickX rfl rfl) rfl ?_
   refine RL.eff (Wanted.free rfl) (E.storeWhole rfl rfl rfl (by rfl) sz26 pickX pv_one (by rfl)) rfl ?_
   rintro _ _ rfl
   refine RL.val (Wanted.free rfl) (V.assign rfl rfl) rfl ?_
   refine RL.nil ?_
   refine SG.retE (Ret.r2 Try.func30 rfl (.agg rfl ag26 pickX rfl rfl) (.tmp rfl)) ?_ ⟨_, _, _, rfl, rfl⟩
   exact entX
  ·
   refine RL.val (Wanted.free rfl) (V.pick_false rfl rfl rfl) rfl ?_
   refine RL.val (Wanted.free rfl) (V.move rfl rfl) rfl ?_
   refine RL.val (Wanted.yes rfl rfl rfl rfl) (V.fieldAddr rfl rfl fo50_1) rfl ?_
   refine RL.val (Wanted.yes rfl rfl rfl rfl) (V.load rfl on3 rfl pickX rfl) rfl ?_
   refine RL.val (Wanted.yes rfl rfl rfl rfl) (V.fieldAddr rfl rfl fo26_1) rfl ?_
   refine RL.val (Wanted.yes rfl rfl rfl rfl) (V.load rfl on3 rfl pickX rfl) rfl ?_
   refine RL.cmp (Wanted.yes rfl rfl rfl rfl) (V.bin rfl rfl rfl B.geq) rfl (fun h43 => ?_) (fun h43 => ?_)
   ·
    refine RL.val (Wanted.free rfl) (V.pick_false rfl rfl rfl) rfl ?_
    refine RL.val (Wanted.free rfl) (V.move rfl rfl) rfl ?_
    refine RL.skip (Wanted.no rfl rfl rfl rfl rfl) rfl ?_
    refine RL.skip (Wanted.no rfl rfl rfl rfl rfl) rfl ?_
    refine RL.skip (Wanted.no rfl rfl rfl rfl rfl) rfl ?_
    refine RL.skip (Wanted.no rfl rfl rfl rfl rfl) rfl ?_
    refine RL.skip (Wanted.no rfl rfl rfl rfl rfl) rfl ?_
    refine RL.val (Wanted.free rfl) (V.pick_true rfl rfl rfl) rfl ?_
    refine RL.val (Wanted.free rfl) (V.move rfl rfl) rfl ?_
    refine RL.skip (Wanted.no rfl rfl rfl rfl rfl) rfl ?_
    refine RL.skip (Wanted.no rfl rfl rfl rfl rfl) rfl ?_
    refine RL.skip (Wanted.no rfl rfl rfl rfl rfl) rfl ?_
    refine RL.val (Wanted.free rfl) (V.pick_true rfl rfl rfl) rfl ?_
    refine RL.val (Wanted.free rfl) (V.move rfl rfl) rfl ?_
    refine RL.skip (Wanted.no rfl rfl rfl rfl rfl) rfl ?_
    refine RL.skip (Wanted.no rfl rfl rfl rfl rfl) rfl ?_
    refine RL.skip (Wanted.no rfl rfl rfl rfl rfl) rfl ?_
    refine RL.val (Wanted.free rfl) (V.pick_true rfl rfl rfl) rfl ?_
    refine RL.nil ?_
    refine SG.cond_true rfl ?_
    refine SG.seq ?_
    refine SG.openNd Pick.here fun la ln lc va vn vc ma mn mc oa on oc => ?_
    refine SG.publish (T := RSlot) (a := la) pickX ?_
    refine SG.publish (T := RB) (a := va) pickX ?_
    refine SG.publish (T := RI) (a := ma) pickX ?_
    refine SG.ent (RPeer.mk (p := p) memX memX memX) ?_
    refine SG.ent (Sl.nil (T := RMsg)) ?_
    refine SG.region ?_
    refine RL.val (Wanted.free rfl) (V.move rfl rfl) rfl ?_
    refine RL.val (Wanted.free rfl) (V.nilCheck rfl rfl) rfl ?_
    refine RL.val (Wanted.free rfl) (V.fieldAddr rfl rfl fo94_0) rfl ?_
    refine RL.val (Wanted.free rfl) (V.loadAgg (us := pv p (.slice la ln lc) (.slice va vn vc) (.slice ma mn mc)) rfl ag26 rfl pickX rfl rfl) rfl ?_
    refine RL.eff (Wanted.free rfl) (E.storeWhole rfl rfl rfl (by rfl) sz26 pickX pv_one (by rfl)) rfl ?_
    rintro _ _ rfl
    refine RL.val (Wanted.free rfl) (V.assign rfl rfl) rfl ?_
    refine RL.nil ?_
    refine SG.retE (Ret.r2 Try.func30 rfl (.agg rfl ag26 pickX rfl rfl) (.tmp rfl)) ?_ ⟨_, _, _, rfl, rfl⟩
    exact entX
   ·
    refine RL.val (Wanted.free rfl) (V.pick_false rfl rfl rfl) rfl ?_
    refine RL.val (Wanted.free rfl) (V.move rfl rfl) rfl ?_
    refine RL.val (Wanted.yes rfl rfl rfl rfl) (V.fieldAddr rfl rfl fo50_1) rfl ?_
    refine RL.val (Wanted.yes rfl rfl rfl rfl) (V.load rfl on3 rfl pickX rfl) rfl ?_
    refine RL.val (Wanted.yes rfl rfl rfl rfl) (V.fieldAddr rfl rfl fo26_0) rfl ?_
    refine RL.val (Wanted.yes rfl rfl rfl rfl) (V.load rfl on3 rfl pickX rfl) rfl ?_
    refine RL.cmp (Wanted.yes rfl rfl rfl rfl) (V.bin rfl rfl rfl B.eql) rfl (fun h58 => ?_) (fun h58 => ?_)
    ·
     refine RL.val (Wanted.free rfl) (V.pick_false rfl rfl rfl) rfl ?_
     refine RL.val (Wanted.free rfl) (V.move rfl rfl) rfl ?_
     refine RL.skip (Wanted.no rfl rfl rfl rfl rfl) rfl ?_
     refine RL.skip (Wanted.no rfl rfl rfl rfl rfl) rfl ?_
     refine RL.skip (Wanted.no rfl rfl rfl rfl rfl) rfl ?_
     refine RL.val (Wanted.free rfl) (V.pick_true rfl rfl rfl) rfl ?_
     refine RL.val (Wanted.free rfl) (V.move rfl rfl) rfl ?_
     refine RL.skip (Wanted.no rfl rfl rfl rfl rfl) rfl ?_
     refine RL.skip (Wanted.no rfl rfl rfl rfl rfl) rfl ?_
     refine RL.skip (Wanted.no rfl rfl rfl rfl rfl) rfl ?_
     refine RL.val (Wanted.free rfl) (V.pick_true rfl rfl rfl) rfl ?_
     refine RL.nil ?_
     refine SG.cond_true rfl ?_
     refine SG.seq ?_
     refine SG.openNd Pick.here fun la ln lc va vn vc ma mn mc oa on oc => ?_
     refine SG.publish (T := RSlot) (a := la) pickX ?_
     refine SG.publish (T := RB) (a := va) pickX ?_
     refine SG.publish (T := RI) (a := ma) pickX ?_
     refine SG.ent (RPeer.mk (p := p) memX memX memX) ?_
     refine SG.ent (Sl.nil (T := RMsg)) ?_
     refine SG.region ?_
     refine RL.val (Wanted.free rfl) (V.move rfl rfl) rfl ?_
     refine RL.val (Wanted.free rfl) (V.nilCheck rfl rfl) rfl ?_
     refine RL.val (Wanted.free rfl) (V.fieldAddr rfl rfl fo94_0) rfl ?_
     refine RL.val (Wanted.free rfl) (V.loadAgg (us := pv p (.slice la ln lc) (.slice va vn vc) (.slice ma mn mc)) rfl ag26 rfl pickX rfl rfl) rfl ?_
     refine RL.eff (Wanted.free rfl) (E.storeWhole rfl rfl rfl (by rfl) sz26 pickX pv_one (by rfl)) rfl ?_
     rintro _ _ rfl
     refine RL.val (Wanted.free rfl) (V.assign rfl rfl) rfl ?_
     refine RL.nil ?_
     refine SG.retE (Ret.r2 Try.func30 rfl (.agg rfl ag26 pickX rfl rfl) (.tmp rfl)) ?_ ⟨_, _, _, rfl, rfl⟩
     exact entX
    ·
     refine RL.val (Wanted.free rfl) (V.pick_false rfl rfl rfl) rfl ?_
     refine RL.val (Wanted.free rfl) (V.move rfl rfl) rfl ?_
     refine RL.val (Wanted.yes rfl rfl rfl rfl) (V.fieldAddr rfl rfl fo50_0) rfl ?_
     refine RL.val (Wanted.yes rfl rfl rfl rfl) (V.load rfl on3 rfl pickX rfl) rfl ?_
     refine RL.cmp (Wanted.yes rfl rfl rfl rfl) (V.bin rfl rfl rfl B.lss) rfl (fun h70 => ?_) (fun h70 => ?_)
     ·
      refine RL.val (Wanted.free rfl) (V.pick_false rfl rfl rfl) rfl ?_
      refine RL.val (Wanted.free rfl) (V.move rfl rfl) rfl ?_
      refine RL.skip (Wanted.no rfl rfl rfl rfl rfl) rfl ?_
      refine RL.skip (Wanted.no rfl rfl rfl rfl rfl) rfl ?_
      refine RL.skip (Wanted.no rfl rfl rfl rfl rfl) rfl ?_
      refine RL.val (Wanted.free rfl) (V.pick_true rfl rfl rfl) rfl ?_
      refine RL.nil ?_
      refine SG.cond_true rfl ?_
      refine SG.seq ?_
      refine SG.openNd Pick.here fun la ln lc va vn vc ma mn mc oa on oc => ?_
      refine SG.publish (T := RSlot) (a := la) pickX ?_
      refine SG.publish (T := RB) (a := va) pickX ?_
      refine SG.publish (T := RI) (a := ma) pickX ?_
      refine SG.ent (RPeer.mk (p := p) memX memX memX) ?_
      refine SG.ent (Sl.nil (T := RMsg)) ?_
      refine SG.region ?_
      refine RL.val (Wanted.free rfl) (V.move rfl rfl) rfl ?_
      refine RL.val (Wanted.free rfl) (V.nilCheck rfl rfl) rfl ?_
      refine RL.val (Wanted.free rfl) (V.fieldAddr rfl rfl fo94_0) rfl ?_
      refine RL.val (Wanted.free rfl) (V.loadAgg (us := pv p (.slice la ln lc) (.slice va vn vc) (.slice ma mn mc)) rfl ag26 rfl pickX rfl rfl) rfl ?_
      refine RL.eff (Wanted.free rfl) (E.storeWhole rfl rfl rfl (by rfl) sz26 pickX pv_one (by rfl)) rfl ?_
      rintro _ _ rfl
      refine RL.val (Wanted.free rfl) (V.assign rfl rfl) rfl ?_
      refine RL.nil ?_
      refine SG.retE (Ret.r2 Try.func30 rfl (.agg rfl ag26 pickX rfl rfl) (.tmp rfl)) ?_ ⟨_, _, _, rfl, rfl⟩
      exact entX
     ·
      refine RL.val (Wanted.free rfl) (V.pick_false rfl rfl rfl) rfl ?_
      refine RL.val (Wanted.free rfl) (V.move rfl rfl) rfl ?_
      refine RL.val (Wanted.yes rfl rfl rfl rfl) (V.fieldAddr rfl rfl fo50_0) rfl ?_
      refine RL.val (Wanted.yes rfl rfl rfl rfl) (V.load rfl on3 rfl pickX rfl) rfl ?_
      refine RL.cmpT (Wanted.yes rfl rfl rfl rfl) (V.bin rfl rfl rfl B.gtr) rfl (by omega) ?_
      refine RL.val (Wanted.free rfl) (V.pick_false rfl rfl rfl) rfl ?_
      refine RL.nil ?_
      refine SG.cond_true rfl ?_
      refine SG.seq ?_
      refine SG.openNd Pick.here fun la ln lc va vn vc ma mn mc oa on oc => ?_
      refine SG.publish (T := RSlot) (a := la) pickX ?_
      refine SG.publish (T := RB) (a := va) pickX ?_
      refine SG.publish (T := RI) (a := ma) pickX ?_
      refine SG.ent (RPeer.mk (p := p) memX memX memX) ?_
      refine SG.ent (Sl.nil (T := RMsg)) ?_
      refine SG.region ?_
      refine RL.val (Wanted.free rfl) (V.move rfl rfl) rfl ?_
      refine RL.val (Wanted.free rfl) (V.nilCheck rfl rfl) rfl ?_
      refine RL.val (Wanted.free rfl) (V.fieldAddr rfl rfl fo94_0) rfl ?_
      refine RL.val (Wanted.free rfl) (V.loadAgg (us := pv p (.slice la ln lc) (.slice va vn vc) (.slice ma mn mc)) rfl ag26 rfl pickX rfl rfl) rfl ?_
      refine RL.eff (Wanted.free rfl) (E.storeWhole rfl rfl rfl (by rfl) sz26 pickX pv_one (by rfl)) rfl ?_
      rintro _ _ rfl
      refine RL.val (Wanted.free rfl) (V.assign rfl rfl) rfl ?_
      refine RL.nil ?_
      refine SG.retE (Ret.r2 Try.func30 rfl (.agg rfl ag26 pickX rfl rfl) (.tmp rfl)) ?_ ⟨_, _, _, rfl, rfl⟩
      exact entX

set_option maxRecDepth 100000 in
set_option maxHeartbeats 1000000 in
theorem handle_k1 {κ : World} {L : List Assn} {us ms : List Value} {p : Peer} {m : Msg} (hm : Rd RPeer us p ∈ L) (hmm : Rd RMsg ms m ∈ L) (ho : POk p) (hmo : MOk m) (hk : m.kind = 1) (h1 : m.to = p.id) (hf0 : 0 ≤ m.frm) (hf1 : m.frm < p.nodes) (hf2 : m.frm ≠ p.id) :
    Ctr Try.prog 30 #[.agg us.toArray, .agg ms.toArray] κ L (fun v M => ∃ us' a c, v = .tuple #[.agg us'.toArray, .slice a (handle p m).2.length c] ∧ M = Rd RPeer us' (handle p m).1 :: Sl RMsg a (handle p m).2.length c (handle p m).2 :: L) := by
 refine Ctr.enter (vs := [.agg us.toArray, .agg ms.toArray]) (m := 118) Try.func30 rfl rfl rfl ?_
 refine SG.openPeer (Pick.rd hm) fun ka kn kc wa wn wc xa xn xc hus => ?_
 subst hus
 refine SG.openMsg (Pick.rd (show Rd RMsg ms m ∈ _ from memX)) fun sa sn sc hms => ?_
 subst hms
 obtain ⟨n1, n5, i0, i1, t0, t1, ll, lv, lm, vn, mn, c0, c1, mm, dd⟩ := id ho
 have hm0 := hmo.t0
 have hm1 := hmo.t1
 refine SG.seq ?_
 refine SG.region ?_
 refine RL.eff (Wanted.free rfl) (E.box _ rfl rfl rfl) rfl ?_
 rintro _ _ ⟨b2, rfl, rfl⟩
 refine RL.eff (Wanted.free rfl) (E.box _ rfl rfl rfl) rfl ?_
 rintro _ _ ⟨b3, rfl, rfl⟩
 refine RL.eff (Wanted.free rfl) (E.alloc rfl ze26) rfl ?_
 rintro _ _ ⟨b4, rfl, rfl⟩
 refine RL.val (Wanted.free rfl) (V.assign rfl rfl) rfl ?_
 refine RL.nil ?_
 refine SG.seq ?_
 refine SG.region ?_
 refine RL.val (Wanted.free rfl) (V.loadAgg (us := pv p (.slice ka kn kc) (.slice wa wn wc) (.slice xa xn xc)) rfl ag26 rfl pickX rfl rfl) rfl ?_
 refine RL.eff (Wanted.free rfl) (E.call rfl go57 rfl (copied_ok (us := pv p (.slice ka kn kc) (.slice wa wn wc) (.slice xa xn xc)) (p := p) memX (by omega) (by omega) (by omega))) rfl ?_
 rintro _ _ ⟨b9, rfl, rfl⟩
 refine RL.val (Wanted.free rfl) (V.assign rfl rfl) rfl ?_
 refine RL.nil ?_
 refine SG.seq ?_
 refine SG.seq ?_
 refine SG.region ?_
 refine RL.val (Wanted.free rfl) (V.fieldAddr rfl rfl fo50_2) rfl ?_
 refine RL.val (Wanted.free rfl) (V.load rfl on3 rfl pickX rfl) rfl ?_
 refine RL.val (Wanted.free rfl) (V.fieldAddr rfl rfl fo26_0) rfl ?_
 refine RL.val (Wanted.free rfl) (V.load rfl on3 rfl pickX rfl) rfl ?_
 refine RL.cmpF (Wanted.free rfl) (V.bin rfl rfl rfl B.neq) rfl (by omega) ?_
 refine RL.val (Wanted.free rfl) (V.move rfl rfl) rfl ?_
 refine RL.val (Wanted.yes rfl rfl rfl rfl) (V.fieldAddr rfl rfl fo50_1) rfl ?_
 refine RL.val (Wanted.yes rfl rfl rfl rfl) (V.load rfl on3 rfl pickX rfl) rfl ?_
 refine RL.cmpF (Wanted.yes rfl rfl rfl rfl) (V.bin rfl rfl rfl B.lss) rfl (by omega) ?_
 refine RL.val (Wanted.free rfl) (V.pick_false rfl rfl rfl) rfl ?_
 refine RL.val (Wanted.free rfl) (V.move rfl rfl) rfl ?_
 refine RL.val (Wanted.yes rfl rfl rfl rfl) (V.fieldAddr rfl rfl fo50_1) rfl ?_
 refine RL.val (Wanted.yes rfl rfl rfl rfl) (V.load rfl on3 rfl pickX rfl) rfl ?_
 refine RL.val (Wanted.yes rfl rfl rfl rfl) (V.fieldAddr rfl rfl fo26_1) rfl ?_
 refine RL.val (Wanted.yes rfl rfl rfl rfl) (V.load rfl on3 rfl pickX rfl) rfl ?_
 refine RL.cmpF (Wanted.yes rfl rfl rfl rfl) (V.bin rfl rfl rfl B.geq) rfl (by omega) ?_
 refine RL.val (Wanted.free rfl) (V.pick_false rfl rfl rfl) rfl ?_
 refine RL.val (Wanted.free rfl) (V.move rfl rfl) rfl ?_
 refine RL.val (Wanted.yes rfl rfl rfl rfl) (V.fieldAddr rfl rfl fo50_1) rfl ?_
 refine RL.val (Wanted.yes rfl rfl rfl rfl) (V.load rfl on3 rfl pickX rfl) rfl ?_
 refine RL.val (Wanted.yes rfl rfl rfl rfl) (V.fieldAddr rfl rfl fo26_0) rfl ?_
 refine RL.val (Wanted.yes rfl rfl rfl rfl) (V.load rfl on3 rfl pickX rfl) rfl ?_
 refine RL.cmpF (Wanted.yes rfl rfl rfl rfl) (V.bin rfl rfl rfl B.eql) rfl (by omega) ?_
 refine RL.val (Wanted.free rfl) (V.pick_false rfl rfl rfl) rfl ?_
 refine RL.val (Wanted.free rfl) (V.move rfl rfl) rfl ?_
 refine RL.val (Wanted.yes rfl rfl rfl rfl) (V.fieldAddr rfl rfl fo50_0) rfl ?_
 refine RL.val (Wanted.yes rfl rfl rfl rfl) (V.load rfl on3 rfl pickX rfl) rfl ?_
 refine RL.cmpF (Wanted.yes rfl rfl rfl rfl) (V.bin rfl rfl rfl B.lss) rfl (by omega) ?_
 refine RL.val (Wanted.free rfl) (V.pick_false rfl rfl rfl) rfl ?_
 refine RL.val (Wanted.free rfl) (V.move rfl rfl) rfl ?_
 refine RL.val (Wanted.yes rfl rfl rfl rfl) (V.fieldAddr rfl rfl fo50_0) rfl ?_
 refine RL.val (Wanted.yes rfl rfl rfl rfl) (V.load rfl on3 rfl pickX rfl) rfl ?_
 refine RL.cmpF (Wanted.yes rfl rfl rfl rfl) (V.bin rfl rfl rfl B.gtr) rfl (by omega) ?_
 refine RL.val (Wanted.free rfl) (V.pick_false rfl rfl rfl) rfl ?_
 refine RL.nil ?_
 refine SG.cond_false rfl ?_
 refine SG.skip ?_
 refine SG.seq ?_
 refine SG.seq ?_
 refine SG.openNd Pick.here fun la ln lc va vn vc ma mn mc oa on oc => ?_
 refine SG.drawL 8 8 wide rfl rfl ?_
 refine RH.val 0 rfl krX krX krX krX (Wanted.free rfl) (V.fieldAddr rfl rfl fo50_3) rfl ?_
 refine RH.val 1 rfl krX krX krX krX (Wanted.free rfl) (V.load rfl on3 rfl pickX rfl) rfl ?_
 refine RH.val 2 rfl krX krX krX krX (Wanted.free rfl) (V.move rfl rfl) rfl ?_
 refine RH.val 3 rfl krX krX krX krX (Wanted.free rfl) (V.nilCheck rfl rfl) rfl ?_
 refine RH.val 4 rfl krX krX krX krX (Wanted.free rfl) (V.fieldAddr rfl rfl fo94_0) rfl ?_
 refine RH.val 5 rfl krX krX krX krX (Wanted.free rfl) (V.fieldAddr rfl rfl fo26_2) rfl ?_
 refine RH.val 6 rfl krX krX krX krX (Wanted.free rfl) (V.load rfl on3 rfl pickX rfl) rfl ?_
 refine RH.cmp 7 rfl krX krX krX krX (Wanted.free rfl) (V.bin rfl rfl rfl B.gtr) rfl (fun h38 => ?_) (fun h38 => ?_)
 ·
  refine RH.done krX ?_
  refine SG.cond_true rfl ?_
  refine SG.region ?_
  refine RL.val (Wanted.free rfl) (V.move rfl rfl) rfl ?_
  refine RL.val (Wanted.free rfl) (V.move rfl rfl) rfl ?_
  refine RL.val (Wanted.free rfl) (V.move rfl rfl) rfl ?_
  refine RL.val (Wanted.free rfl) (V.move rfl rfl) rfl ?_
  refine RL.val (Wanted.free rfl) (V.move rfl rfl) rfl ?_
  refine RL.val (Wanted.free rfl) (V.fieldAddr rfl rfl fo50_3) rfl ?_
  refine RL.val (Wanted.free rfl) (V.load rfl on3 rfl pickX rfl) rfl ?_
  refine RL.val (Wanted.free rfl) (V.nilCheck rfl rfl) rfl ?_
  refine RL.val (Wanted.free rfl) (V.fieldAddr rfl rfl fo94_0) rfl ?_
  refine RL.val (Wanted.free rfl) (V.fieldAddr rfl rfl fo26_2) rfl ?_
  refine RL.eff (Wanted.free rfl) (E.store1 rfl rfl rfl rfl rfl sz3 pickX rfl) rfl ?_
  rintro _ _ rfl
  refine RL.val (Wanted.free rfl) (V.nilCheck rfl rfl) rfl ?_
  refine RL.val (Wanted.free rfl) (V.fieldAddr rfl rfl fo94_0) rfl ?_
  refine RL.val (Wanted.free rfl) (V.fieldAddr rfl rfl fo26_3) rfl ?_
  refine RL.eff (Wanted.free rfl) (E.store1 rfl rfl rfl rfl rfl sz3 pickX rfl) rfl ?_
  rintro _ _ rfl
  refine RL.val (Wanted.free rfl) (V.nilCheck rfl rfl) rfl ?_
  refine RL.val (Wanted.free rfl) (V.fieldAddr rfl rfl fo94_0) rfl ?_
  refine RL.val (Wanted.free rfl) (V.fieldAddr rfl rfl fo26_4) rfl ?_
  refine RL.eff (Wanted.free rfl) (E.store1 rfl rfl rfl rfl rfl sz3 pickX rfl) rfl ?_
  rintro _ _ rfl
  refine RL.val (Wanted.free rfl) (V.nilCheck rfl rfl) rfl ?_
  refine RL.val (Wanted.free rfl) (V.fieldAddr rfl rfl fo94_0) rfl ?_
  refine RL.val (Wanted.free rfl) (V.fieldAddr rfl rfl fo26_7) rfl ?_
  refine RL.eff (Wanted.free rfl) (E.store1 rfl rfl rfl rfl rfl sz24 pickX rfl) rfl ?_
  rintro _ _ rfl
  refine RL.val (Wanted.free rfl) (V.nilCheck rfl rfl) rfl ?_
  refine RL.val (Wanted.free rfl) (V.fieldAddr rfl rfl fo94_0) rfl ?_
  refine RL.val (Wanted.free rfl) (V.fieldAddr rfl rfl fo26_8) rfl ?_
  refine RL.eff (Wanted.free rfl) (E.store1 rfl rfl rfl rfl rfl sz22 pickX rfl) rfl ?_
  rintro _ _ rfl
  refine RL.nil ?_
  refine SG.seq ?_
  refine SG.join (ι := Unit) (fun _ => [(3, ptr b3 0), (4, ptr b4 0), (6, ptr b9 0), (7, vB (decide (m.term < (Rp.raised p m).term)))]) (fun _ => Nd b9 (Rp.raised p m) [] :: Sl RSlot sa sn sc m.slots :: Blk b3 50 (mv m (.slice sa sn sc)) :: Blk b4 26 [.int .i64 0, .int .i64 0, .int .i64 0, .int .i64 0, .int .i64 0, .int .i64 0, .slice none 0 0, .slice none 0 0, .slice none 0 0] :: L) (fun _ => True) ?_ (fun rest => ?_)
  ·
   rintro _ _
   try dsimp only
   have hh : handle p m = (voteP (Rp.raised p m) m, [voteM (Rp.raised p m) m]) := by rw [handle, if_neg (by unfold strange; omega), handleQ]; simp [hk]
   rw [hh]
   obtain ⟨hqi, hqn⟩ := raised_id p m
   obtain ⟨qn1, qn5, qi0, qi1, qt0, qt1, qll, qlv, qlm, qvn, qmn, qc0, qc1, qmm, qdd⟩ := raised_ok ho hmo
   generalize Rp.raised p m = q at *
   refine SG.seq ?_
   refine SG.seq ?_
   refine SG.region ?_
   refine RL.val (Wanted.free rfl) (V.fieldAddr rfl rfl fo50_0) rfl ?_
   refine RL.val (Wanted.free rfl) (V.load rfl on3 rfl pickX rfl) rfl ?_
   refine RL.nil ?_
   refine SG.block ?_
   refine SG.seq ?_
   refine SG.block ?_
   refine SG.block ?_
   refine SG.seq ?_
   refine SG.seq ?_
   refine SG.seq ?_
   refine SG.region ?_
   refine RL.cmpF (Wanted.free rfl) (V.bin rfl rfl rfl B.eql) rfl (by omega) ?_
   refine RL.val (Wanted.free rfl) (V.assign rfl rfl) rfl ?_
   refine RL.nil ?_
   refine SG.cond_false rfl ?_
   refine SG.skip ?_
   refine SG.seq ?_
   refine SG.region ?_
   refine RL.cmpF (Wanted.free rfl) (V.bin rfl rfl rfl B.eql) rfl (by omega) ?_
   refine RL.val (Wanted.free rfl) (V.assign rfl rfl) rfl ?_
   refine RL.nil ?_
   refine SG.cond_false rfl ?_
   refine SG.skip ?_
   refine SG.exit rfl ?_
   refine SG.seq ?_
   refine SG.ent (RMsg.mk (m := m) (a := sa) (n' := sn) (c := sc) memX) ?_
   refine SG.drawN 8 8 (Blk b3 50 (mv m (.slice sa sn sc)) :: L) wide rfl rfl (by repeat (first | exact Ent.refl _ | (apply Ent.cons; (· repeat (first | exact Pick.here | (refine Pick.sl ?_; (· repeat (first | exact List.Mem.head _ | assumption | apply List.Mem.tail))) | apply Pick.there))) | (refine Ent.trans (Ent.drop _ _) ?_))) ?_
   refine RH.val 0 rfl krX krX krX krX (Wanted.free rfl) (V.buildA (cs := [.func (.func 70) #[] #[], .func (.func 71) #[] #[], .func (.func 72) #[] #[], .func (.func 73) #[] #[]]) [(0, _), (1, _), (2, _), (3, _)] rfl ba101 (by exact ⟨rfl, ⟨_, rfl, rfl⟩, ⟨rfl, ⟨_, rfl, rfl⟩, ⟨rfl, ⟨_, rfl, rfl⟩, ⟨rfl, ⟨_, rfl, rfl⟩, trivial⟩⟩⟩⟩) rfl) rfl ?_
   refine RH.val 1 rfl krX krX krX krX (Wanted.free rfl) (V.fieldAddr rfl rfl fo50_0) rfl ?_
   refine RH.val 2 rfl krX krX krX krX (Wanted.free rfl) (V.load rfl on3 rfl pickX rfl) rfl ?_
   refine RH.val 3 rfl krX krX krX krX (Wanted.free rfl) (V.bin rfl rfl rfl (B.subI (by omega) (by omega))) rfl ?_
   refine RH.val 4 rfl krX krX krX krX (Wanted.free rfl) (V.indexA (j := 0) rfl ar101 (one_of krX) rfl rfl rfl (by omega) rfl) rfl ?_
   refine RH.val 5 rfl krX krX krX krX (Wanted.free rfl) (V.move rfl rfl) rfl ?_
   refine RH.val 6 rfl krX krX krX krX (Wanted.free rfl) (V.loadAgg (us := mv m (.slice sa sn sc)) rfl ag50 rfl pickX rfl rfl) rfl ?_
   refine RH.one (i := 7) krX ?_
   refine RHone.eff rfl (Wanted.free rfl) (E.callV rfl rfl go70 rfl (vote_okw (p := q) (out := []) (us := mv m (.slice sa sn sc)) (m := m) pickX memX (by simp) qll qlv qlm)) rfl ?_
   rintro _ _ ⟨rfl, rfl⟩
   refine ⟨.inr entX, ?_⟩
   refine RH.done krX ?_
   refine SG.seq ?_
   refine SG.openNd (p := (voteP q m)) pickX fun la ln lc va vn vc ma mn mc oa on oc => ?_
   refine SG.buf (T := RMsg) (a := oa) pickX fun hol _ _ => ?_
   subst hol
   refine SG.publish (T := RSlot) (a := la) pickX ?_
   refine SG.publish (T := RB) (a := va) pickX ?_
   refine SG.publish (T := RI) (a := ma) pickX ?_
   refine SG.ent (RPeer.mk (p := (voteP q m)) memX memX memX) ?_
   refine SG.publish (T := RMsg) (a := oa) pickX ?_
   refine SG.drawP1 10 4 wide rfl rfl rfl pickX ?_
   refine RH.val 0 rfl krX krX krX krX (Wanted.free rfl) (V.move rfl rfl) rfl ?_
   refine RH.val 1 rfl krX krX krX krX (Wanted.free rfl) (V.nilCheck rfl rfl) rfl ?_
   refine RH.val 2 rfl krX krX krX krX (Wanted.free rfl) (V.fieldAddr rfl rfl fo94_0) rfl ?_
   refine RH.val 3 rfl krX krX krX krX (Wanted.free rfl) (V.loadAgg (us := pv (voteP q m) (.slice la ln lc) (.slice va vn vc) (.slice ma mn mc)) rfl ag26 rfl pickX rfl rfl) rfl ?_
   refine RH.val 4 rfl krX krX krX krX (Wanted.free rfl) (V.move rfl rfl) rfl ?_
   refine RH.val 5 rfl krX krX krX krX (Wanted.free rfl) (V.nilCheck rfl rfl) rfl ?_
   refine RH.val 6 rfl krX krX krX krX (Wanted.free rfl) (V.fieldAddr rfl rfl fo94_1) rfl ?_
   refine RH.val 7 rfl krX krX krX krX (Wanted.free rfl) (V.load rfl on35 rfl pickX rfl) rfl ?_
   refine RH.one (i := 8) krX ?_
   refine RHone.eff rfl (Wanted.free rfl) (E.storeWhole rfl rfl rfl (by rfl) sz26 pickX pv_one (by rfl)) rfl ?_
   rintro _ _ rfl
   refine ⟨.inr entX, ?_⟩
   refine RH.val 9 rfl krX krX krX krX (Wanted.free rfl) (V.assign rfl rfl) rfl ?_
   refine RH.done krX ?_
   refine SG.retE (Ret.r2 Try.func30 rfl (.agg rfl ag26 pickX rfl rfl) (.tmp rfl)) ?_ ⟨_, _, _, rfl, rfl⟩
   exact entX
  ·
   have hq := raised_yes (p := p) (m := m) (by omega)
   refine SG.ent (Ent.trans (Buf.nil (T := RB) (e := 4)) (Buf.nil (T := RI) (e := 3))) ?_
   refine SG.ent (?_ : Ent _ (Blk b9 94 (nv (down p m.term) (.slice la ln lc) (.slice none 0 0) (.slice none 0 0) (.slice oa on oc)) :: Buf RSlot 53 la ln lc p.log :: Buf RB 4 none 0 0 [] :: Buf RI 3 none 0 0 [] :: Buf RMsg 50 oa on oc [] :: Sl RSlot sa sn sc m.slots :: Blk b3 50 (mv m (.slice sa sn sc)) :: Blk b4 26 [.int .i64 0, .int .i64 0, .int .i64 0, .int .i64 0, .int .i64 0, .int .i64 0, .slice none 0 0, .slice none 0 0, .slice none 0 0] :: L)) ?_
   ·
    exact entX
   refine SG.drawL 9 9 wide rfl rfl ?_
   refine RH.val 0 rfl krX krX krX krX (Wanted.free rfl) (V.fieldAddr rfl rfl fo50_3) rfl ?_
   refine RH.val 1 rfl krX krX krX krX (Wanted.free rfl) (V.load rfl on3 rfl pickX rfl) rfl ?_
   refine RH.val 2 rfl krX krX krX krX (Wanted.free rfl) (V.move rfl rfl) rfl ?_
   refine RH.val 3 rfl krX krX krX krX (Wanted.free rfl) (V.nilCheck rfl rfl) rfl ?_
   refine RH.val 4 rfl krX krX krX krX (Wanted.free rfl) (V.fieldAddr rfl rfl fo94_0) rfl ?_
   refine RH.val 5 rfl krX krX krX krX (Wanted.free rfl) (V.fieldAddr rfl rfl fo26_2) rfl ?_
   refine RH.val 6 rfl krX krX krX krX (Wanted.free rfl) (V.load rfl on3 rfl pickX rfl) rfl ?_
   refine RH.cmp 7 rfl krX krX krX krX (Wanted.free rfl) (V.bin rfl rfl rfl B.lss) rfl (fun h95 => ?_) (fun h95 => ?_)
   ·
    refine RH.val 8 rfl krX krX krX krX (Wanted.free rfl) (V.assign rfl rfl) rfl ?_
    refine RH.done krX ?_
    refine SG.weaken (rest () trivial) ?_ ?_
    ·
     repeat (first | exact EnvLe.nil _ | refine EnvLe.cons (by first | rfl | (rw [hq]; first | exact congrArg (fun x => some (Value.bool x)) (decide_eq_true (by first | omega | assumption)).symm | exact congrArg (fun x => some (Value.bool x)) (decide_eq_false (by first | omega | assumption)).symm)) ?_)
    ·
     rw [hq]
     refine Nd.ent (la := la) (ln := ln) (lc := lc) (va := none) (vn := 0) (vc := 0) (ma := none) (mn := 0) (mc := 0) (oa := oa) (on := on) (oc := oc) ?_
     exact entX
   ·
    refine RH.val 8 rfl krX krX krX krX (Wanted.free rfl) (V.assign rfl rfl) rfl ?_
    refine RH.done krX ?_
    refine SG.weaken (rest () trivial) ?_ ?_
    ·
     repeat (first | exact EnvLe.nil _ | refine EnvLe.cons (by first | rfl | (rw [hq]; first | exact congrArg (fun x => some (Value.bool x)) (decide_eq_true (by first | omega | assumption)).symm | exact congrArg (fun x => some (Value.bool x)) (decide_eq_false (by first | omega | assumption)).symm)) ?_)
    ·
     rw [hq]
     refine Nd.ent (la := la) (ln := ln) (lc := lc) (va := none) (vn := 0) (vc := 0) (ma := none) (mn := 0) (mc := 0) (oa := oa) (on := on) (oc := oc) ?_
     exact entX
 ·
  refine RH.done krX ?_
  refine SG.cond_false rfl ?_
  refine SG.skip ?_
  refine SG.seq ?_
  refine SG.join (ι := Unit) (fun _ => [(3, ptr b3 0), (4, ptr b4 0), (6, ptr b9 0), (7, vB (decide (m.term < (Rp.raised p m).term)))]) (fun _ => Nd b9 (Rp.raised p m) [] :: Sl RSlot sa sn sc m.slots :: Blk b3 50 (mv m (.slice sa sn sc)) :: Blk b4 26 [.int .i64 0, .int .i64 0, .int .i64 0, .int .i64 0, .int .i64 0, .int .i64 0, .slice none 0 0, .slice none 0 0, .slice none 0 0] :: L) (fun _ => True) ?_ (fun rest => ?_)
  ·
   rintro _ _
   try dsimp only
   have hh : handle p m = (voteP (Rp.raised p m) m, [voteM (Rp.raised p m) m]) := by rw [handle, if_neg (by unfold strange; omega), handleQ]; simp [hk]
   rw [hh]
   obtain ⟨hqi, hqn⟩ := raised_id p m
   obtain ⟨qn1, qn5, qi0, qi1, qt0, qt1, qll, qlv, qlm, qvn, qmn, qc0, qc1, qmm, qdd⟩ := raised_ok ho hmo
   generalize Rp.raised p m = q at *
   refine SG.seq ?_
   refine SG.seq ?_
   refine SG.region ?_
   refine RL.val (Wanted.free rfl) (V.fieldAddr rfl rfl fo50_0) rfl ?_
   refine RL.val (Wanted.free rfl) (V.load rfl on3 rfl pickX rfl) rfl ?_
   refine RL.nil ?_
   refine SG.block ?_
   refine SG.seq ?_
   refine SG.block ?_
   refine SG.block ?_
   refine SG.seq ?_
   refine SG.seq ?_
   refine SG.seq ?_
   refine SG.region ?_
   refine RL.cmpF (Wanted.free rfl) (V.bin rfl rfl rfl B.eql) rfl (by omega) ?_
   refine RL.val (Wanted.free rfl) (V.assign rfl rfl) rfl ?_
   refine RL.nil ?_
   refine SG.cond_false rfl ?_
   refine SG.skip ?_
   refine SG.seq ?_
   refine SG.region ?_
   refine RL.cmpF (Wanted.free rfl) (V.bin rfl rfl rfl B.eql) rfl (by omega) ?_
   refine RL.val (Wanted.free rfl) (V.assign rfl rfl) rfl ?_
   refine RL.nil ?_
   refine SG.cond_false rfl ?_
   refine SG.skip ?_
   refine SG.exit rfl ?_
   refine SG.seq ?_
   refine SG.ent (RMsg.mk (m := m) (a := sa) (n' := sn) (c := sc) memX) ?_
   refine SG.drawN 8 8 (Blk b3 50 (mv m (.slice sa sn sc)) :: L) wide rfl rfl (by repeat (first | exact Ent.refl _ | (apply Ent.cons; (· repeat (first | exact Pick.here | (refine Pick.sl ?_; (· repeat (first | exact List.Mem.head _ | assumption | apply List.Mem.tail))) | apply Pick.there))) | (refine Ent.trans (Ent.drop _ _) ?_))) ?_
   refine RH.val 0 rfl krX krX krX krX (Wanted.free rfl) (V.buildA (cs := [.func (.func 70) #[] #[], .func (.func 71) #[] #[], .func (.func 72) #[] #[], .func (.func 73) #[] #[]]) [(0, _), (1, _), (2, _), (3, _)] rfl ba101 (by exact ⟨rfl, ⟨_, rfl, rfl⟩, ⟨rfl, ⟨_, rfl, rfl⟩, ⟨rfl, ⟨_, rfl, rfl⟩, ⟨rfl, ⟨_, rfl, rfl⟩, trivial⟩⟩⟩⟩) rfl) rfl ?_
   refine RH.val 1 rfl krX krX krX krX (Wanted.free rfl) (V.fieldAddr rfl rfl fo50_0) rfl ?_
   refine RH.val 2 rfl krX krX krX krX (Wanted.free rfl) (V.load rfl on3 rfl pickX rfl) rfl ?_
   refine RH.val 3 rfl krX krX krX krX (Wanted.free rfl) (V.bin rfl rfl rfl (B.subI (by omega) (by omega))) rfl ?_
   refine RH.val 4 rfl krX krX krX krX (Wanted.free rfl) (V.indexA (j := 0) rfl ar101 (one_of krX) rfl rfl rfl (by omega) rfl) rfl ?_
   refine RH.val 5 rfl krX krX krX krX (Wanted.free rfl) (V.move rfl rfl) rfl ?_
   refine RH.val 6 rfl krX krX krX krX (Wanted.free rfl) (V.loadAgg (us := mv m (.slice sa sn sc)) rfl ag50 rfl pickX rfl rfl) rfl ?_
   refine RH.one (i := 7) krX ?_
   refine RHone.eff rfl (Wanted.free rfl) (E.callV rfl rfl go70 rfl (vote_okw (p := q) (out := []) (us := mv m (.slice sa sn sc)) (m := m) pickX memX (by simp) qll qlv qlm)) rfl ?_
   rintro _ _ ⟨rfl, rfl⟩
   refine ⟨.inr entX, ?_⟩
   refine RH.done krX ?_
   refine SG.seq ?_
   refine SG.openNd (p := (voteP q m)) pickX fun la ln lc va vn vc ma mn mc oa on oc => ?_
   refine SG.buf (T := RMsg) (a := oa) pickX fun hol _ _ => ?_
   subst hol
   refine SG.publish (T := RSlot) (a := la) pickX ?_
   refine SG.publish (T := RB) (a := va) pickX ?_
   refine SG.publish (T := RI) (a := ma) pickX ?_
   refine SG.ent (RPeer.mk (p := (voteP q m)) memX memX memX) ?_
   refine SG.publish (T := RMsg) (a := oa) pickX ?_
   refine SG.drawP1 10 4 wide rfl rfl rfl pickX ?_
   refine RH.val 0 rfl krX krX krX krX (Wanted.free rfl) (V.move rfl rfl) rfl ?_
   refine RH.val 1 rfl krX krX krX krX (Wanted.free rfl) (V.nilCheck rfl rfl) rfl ?_
   refine RH.val 2 rfl krX krX krX krX (Wanted.free rfl) (V.fieldAddr rfl rfl fo94_0) rfl ?_
   refine RH.val 3 rfl krX krX krX krX (Wanted.free rfl) (V.loadAgg (us := pv (voteP q m) (.slice la ln lc) (.slice va vn vc) (.slice ma mn mc)) rfl ag26 rfl pickX rfl rfl) rfl ?_
   refine RH.val 4 rfl krX krX krX krX (Wanted.free rfl) (V.move rfl rfl) rfl ?_
   refine RH.val 5 rfl krX krX krX krX (Wanted.free rfl) (V.nilCheck rfl rfl) rfl ?_
   refine RH.val 6 rfl krX krX krX krX (Wanted.free rfl) (V.fieldAddr rfl rfl fo94_1) rfl ?_
   refine RH.val 7 rfl krX krX krX krX (Wanted.free rfl) (V.load rfl on35 rfl pickX rfl) rfl ?_
   refine RH.one (i := 8) krX ?_
   refine RHone.eff rfl (Wanted.free rfl) (E.storeWhole rfl rfl rfl (by rfl) sz26 pickX pv_one (by rfl)) rfl ?_
   rintro _ _ rfl
   refine ⟨.inr entX, ?_⟩
   refine RH.val 9 rfl krX krX krX krX (Wanted.free rfl) (V.assign rfl rfl) rfl ?_
   refine RH.done krX ?_
   refine SG.retE (Ret.r2 Try.func30 rfl (.agg rfl ag26 pickX rfl rfl) (.tmp rfl)) ?_ ⟨_, _, _, rfl, rfl⟩
   exact entX
  ·
   have hq := raised_no (p := p) (m := m) (by omega)
   refine SG.drawL 9 9 wide rfl rfl ?_
   refine RH.val 0 rfl krX krX krX krX (Wanted.free rfl) (V.fieldAddr rfl rfl fo50_3) rfl ?_
   refine RH.val 1 rfl krX krX krX krX (Wanted.free rfl) (V.load rfl on3 rfl pickX rfl) rfl ?_
   refine RH.val 2 rfl krX krX krX krX (Wanted.free rfl) (V.move rfl rfl) rfl ?_
   refine RH.val 3 rfl krX krX krX krX (Wanted.free rfl) (V.nilCheck rfl rfl) rfl ?_
   refine RH.val 4 rfl krX krX krX krX (Wanted.free rfl) (V.fieldAddr rfl rfl fo94_0) rfl ?_
   refine RH.val 5 rfl krX krX krX krX (Wanted.free rfl) (V.fieldAddr rfl rfl fo26_2) rfl ?_
   refine RH.val 6 rfl krX krX krX krX (Wanted.free rfl) (V.load rfl on3 rfl pickX rfl) rfl ?_
   refine RH.cmp 7 rfl krX krX krX krX (Wanted.free rfl) (V.bin rfl rfl rfl B.lss) rfl (fun h127 => ?_) (fun h127 => ?_)
   ·
    refine RH.val 8 rfl krX krX krX krX (Wanted.free rfl) (V.assign rfl rfl) rfl ?_
    refine RH.done krX ?_
    refine SG.weaken (rest () trivial) ?_ ?_
    ·
     repeat (first | exact EnvLe.nil _ | refine EnvLe.cons (by first | rfl | (rw [hq]; first | exact congrArg (fun x => some (Value.bool x)) (decide_eq_true (by first | omega | assumption)).symm | exact congrArg (fun x => some (Value.bool x)) (decide_eq_false (by first | omega | assumption)).symm)) ?_)
    ·
     rw [hq]
     refine Nd.ent (la := la) (ln := ln) (lc := lc) (va := va) (vn := vn) (vc := vc) (ma := ma) (mn := mn) (mc := mc) (oa := oa) (on := on) (oc := oc) ?_
     exact entX
   ·
    refine RH.val 8 rfl krX krX krX krX (Wanted.free rfl) (V.assign rfl rfl) rfl ?_
    refine RH.done krX ?_
    refine SG.weaken (rest () trivial) ?_ ?_
    ·
     repeat (first | exact EnvLe.nil _ | refine EnvLe.cons (by first | rfl | (rw [hq]; first | exact congrArg (fun x => some (Value.bool x)) (decide_eq_true (by first | omega | assumption)).symm | exact congrArg (fun x => some (Value.bool x)) (decide_eq_false (by first | omega | assumption)).symm)) ?_)
    ·
     rw [hq]
     refine Nd.ent (la := la) (ln := ln) (lc := lc) (va := va) (vn := vn) (vc := vc) (ma := ma) (mn := mn) (mc := mc) (oa := oa) (on := on) (oc := oc) ?_
     exact entX

set_option maxRecDepth 100000 in
set_option maxHeartbeats 1000000 in
theorem handle_k2 {κ : World} {L : List Assn} {us ms : List Value} {p : Peer} {m : Msg} (hm : Rd RPeer us p ∈ L) (hmm : Rd RMsg ms m ∈ L) (ho : POk p) (hmo : MOk m) (hk : m.kind = 2) (h1 : m.to = p.id) (hf0 : 0 ≤ m.frm) (hf1 : m.frm < p.nodes) (hf2 : m.frm ≠ p.id) :
    Ctr Try.prog 30 #[.agg us.toArray, .agg ms.toArray] κ L (fun v M => ∃ us' a c, v = .tuple #[.agg us'.toArray, .slice a (handle p m).2.length c] ∧ M = Rd RPeer us' (handle p m).1 :: Sl RMsg a (handle p m).2.length c (handle p m).2 :: L) := by
 refine Ctr.enter (vs := [.agg us.toArray, .agg ms.toArray]) (m := 118) Try.func30 rfl rfl rfl ?_
 refine SG.openPeer (Pick.rd hm) fun ka kn kc wa wn wc xa xn xc hus => ?_
 subst hus
 refine SG.openMsg (Pick.rd (show Rd RMsg ms m ∈ _ from memX)) fun sa sn sc hms => ?_
 subst hms
 obtain ⟨n1, n5, i0, i1, t0, t1, ll, lv, lm, vn, mn, c0, c1, mm, dd⟩ := id ho
 have hm0 := hmo.t0
 have hm1 := hmo.t1
 refine SG.seq ?_
 refine SG.region ?_
 refine RL.eff (Wanted.free rfl) (E.box _ rfl rfl rfl) rfl ?_
 rintro _ _ ⟨b2, rfl, rfl⟩
 refine RL.eff (Wanted.free rfl) (E.box _ rfl rfl rfl) rfl ?_
 rintro _ _ ⟨b3, rfl, rfl⟩
 refine RL.eff (Wanted.free rfl) (E.alloc rfl ze26) rfl ?_
 rintro _ _ ⟨b4, rfl, rfl⟩
 refine RL.val (Wanted.free rfl) (V.assign rfl rfl) rfl ?_
 refine RL.nil ?_
 refine SG.seq ?_
 refine SG.region ?_
 refine RL.val (Wanted.free rfl) (V.loadAgg (us := pv p (.slice ka kn kc) (.slice wa wn wc) (.slice xa xn xc)) rfl ag26 rfl pickX rfl rfl) rfl ?_
 refine RL.eff (Wanted.free rfl) (E.call rfl go57 rfl (copied_ok (us := pv p (.slice ka kn kc) (.slice wa wn wc) (.slice xa xn xc)) (p := p) memX (by omega) (by omega) (by omega))) rfl ?_
 rintro _ _ ⟨b9, rfl, rfl⟩
 refine RL.val (Wanted.free rfl) (V.assign rfl rfl) rfl ?_
 refine RL.nil ?_
 refine SG.seq ?_
 refine SG.seq ?_
 refine SG.region ?_
 refine RL.val (Wanted.free rfl) (V.fieldAddr rfl rfl fo50_2) rfl ?_
 refine RL.val (Wanted.free rfl) (V.load rfl on3 rfl pickX rfl) rfl ?_
 refine RL.val (Wanted.free rfl) (V.fieldAddr rfl rfl fo26_0) rfl ?_
 refine RL.val (Wanted.free rfl) (V.load rfl on3 rfl pickX rfl) rfl ?_
 refine RL.cmpF (Wanted.free rfl) (V.bin rfl rfl rfl B.neq) rfl (by omega) ?_
 refine RL.val (Wanted.free rfl) (V.move rfl rfl) rfl ?_
 refine RL.val (Wanted.yes rfl rfl rfl rfl) (V.fieldAddr rfl rfl fo50_1) rfl ?_
 refine RL.val (Wanted.yes rfl rfl rfl rfl) (V.load rfl on3 rfl pickX rfl) rfl ?_
 refine RL.cmpF (Wanted.yes rfl rfl rfl rfl) (V.bin rfl rfl rfl B.lss) rfl (by omega) ?_
 refine RL.val (Wanted.free rfl) (V.pick_false rfl rfl rfl) rfl ?_
 refine RL.val (Wanted.free rfl) (V.move rfl rfl) rfl ?_
 refine RL.val (Wanted.yes rfl rfl rfl rfl) (V.fieldAddr rfl rfl fo50_1) rfl ?_
 refine RL.val (Wanted.yes rfl rfl rfl rfl) (V.load rfl on3 rfl pickX rfl) rfl ?_
 refine RL.val (Wanted.yes rfl rfl rfl rfl) (V.fieldAddr rfl rfl fo26_1) rfl ?_
 refine RL.val (Wanted.yes rfl rfl rfl rfl) (V.load rfl on3 rfl pickX rfl) rfl ?_
 refine RL.cmpF (Wanted.yes rfl rfl rfl rfl) (V.bin rfl rfl rfl B.geq) rfl (by omega) ?_
 refine RL.val (Wanted.free rfl) (V.pick_false rfl rfl rfl) rfl ?_
 refine RL.val (Wanted.free rfl) (V.move rfl rfl) rfl ?_
 refine RL.val (Wanted.yes rfl rfl rfl rfl) (V.fieldAddr rfl rfl fo50_1) rfl ?_
 refine RL.val (Wanted.yes rfl rfl rfl rfl) (V.load rfl on3 rfl pickX rfl) rfl ?_
 refine RL.val (Wanted.yes rfl rfl rfl rfl) (V.fieldAddr rfl rfl fo26_0) rfl ?_
 refine RL.val (Wanted.yes rfl rfl rfl rfl) (V.load rfl on3 rfl pickX rfl) rfl ?_
 refine RL.cmpF (Wanted.yes rfl rfl rfl rfl) (V.bin rfl rfl rfl B.eql) rfl (by omega) ?_
 refine RL.val (Wanted.free rfl) (V.pick_false rfl rfl rfl) rfl ?_
 refine RL.val (Wanted.free rfl) (V.move rfl rfl) rfl ?_
 refine RL.val (Wanted.yes rfl rfl rfl rfl) (V.fieldAddr rfl rfl fo50_0) rfl ?_
 refine RL.val (Wanted.yes rfl rfl rfl rfl) (V.load rfl on3 rfl pickX rfl) rfl ?_
 refine RL.cmpF (Wanted.yes rfl rfl rfl rfl) (V.bin rfl rfl rfl B.lss) rfl (by omega) ?_
 refine RL.val (Wanted.free rfl) (V.pick_false rfl rfl rfl) rfl ?_
 refine RL.val (Wanted.free rfl) (V.move rfl rfl) rfl ?_
 refine RL.val (Wanted.yes rfl rfl rfl rfl) (V.fieldAddr rfl rfl fo50_0) rfl ?_
 refine RL.val (Wanted.yes rfl rfl rfl rfl) (V.load rfl on3 rfl pickX rfl) rfl ?_
 refine RL.cmpF (Wanted.yes rfl rfl rfl rfl) (V.bin rfl rfl rfl B.gtr) rfl (by omega) ?_
 refine RL.val (Wanted.free rfl) (V.pick_false rfl rfl rfl) rfl ?_
 refine RL.nil ?_
 refine SG.cond_false rfl ?_
 refine SG.skip ?_
 refine SG.seq ?_
 refine SG.seq ?_
 refine SG.openNd Pick.here fun la ln lc va vn vc ma mn mc oa on oc => ?_
 refine SG.drawL 8 8 wide rfl rfl ?_
 refine RH.val 0 rfl krX krX krX krX (Wanted.free rfl) (V.fieldAddr rfl rfl fo50_3) rfl ?_
 refine RH.val 1 rfl krX krX krX krX (Wanted.free rfl) (V.load rfl on3 rfl pickX rfl) rfl ?_
 refine RH.val 2 rfl krX krX krX krX (Wanted.free rfl) (V.move rfl rfl) rfl ?_
 refine RH.val 3 rfl krX krX krX krX (Wanted.free rfl) (V.nilCheck rfl rfl) rfl ?_
 refine RH.val 4 rfl krX krX krX krX (Wanted.free rfl) (V.fieldAddr rfl rfl fo94_0) rfl ?_
 refine RH.val 5 rfl krX krX krX krX (Wanted.free rfl) (V.fieldAddr rfl rfl fo26_2) rfl ?_
 refine RH.val 6 rfl krX krX krX krX (Wanted.free rfl) (V.load rfl on3 rfl pickX rfl) rfl ?_
 refine RH.cmp 7 rfl krX krX krX krX (Wanted.free rfl) (V.bin rfl rfl rfl B.gtr) rfl (fun h38 => ?_) (fun h38 => ?_)
 ·
  refine RH.done krX ?_
  refine SG.cond_true rfl ?_
  refine SG.region ?_
  refine RL.val (Wanted.free rfl) (V.move rfl rfl) rfl ?_
  refine RL.val (Wanted.free rfl) (V.move rfl rfl) rfl ?_
  refine RL.val (Wanted.free rfl) (V.move rfl rfl) rfl ?_
  refine RL.val (Wanted.free rfl) (V.move rfl rfl) rfl ?_
  refine RL.val (Wanted.free rfl) (V.move rfl rfl) rfl ?_
  refine RL.val (Wanted.free rfl) (V.fieldAddr rfl rfl fo50_3) rfl ?_
  refine RL.val (Wanted.free rfl) (V.load rfl on3 rfl pickX rfl) rfl ?_
  refine RL.val (Wanted.free rfl) (V.nilCheck rfl rfl) rfl ?_
  refine RL.val (Wanted.free rfl) (V.fieldAddr rfl rfl fo94_0) rfl ?_
  refine RL.val (Wanted.free rfl) (V.fieldAddr rfl rfl fo26_2) rfl ?_
  refine RL.eff (Wanted.free rfl) (E.store1 rfl rfl rfl rfl rfl sz3 pickX rfl) rfl ?_
  rintro _ _ rfl
  refine RL.val (Wanted.free rfl) (V.nilCheck rfl rfl) rfl ?_
  refine RL.val (Wanted.free rfl) (V.fieldAddr rfl rfl fo94_0) rfl ?_
  refine RL.val (Wanted.free rfl) (V.fieldAddr rfl rfl fo26_3) rfl ?_
  refine RL.eff (Wanted.free rfl) (E.store1 rfl rfl rfl rfl rfl sz3 pickX rfl) rfl ?_
  rintro _ _ rfl
  refine RL.val (Wanted.free rfl) (V.nilCheck rfl rfl) rfl ?_
  refine RL.val (Wanted.free rfl) (V.fieldAddr rfl rfl fo94_0) rfl ?_
  refine RL.val (Wanted.free rfl) (V.fieldAddr rfl rfl fo26_4) rfl ?_
  refine RL.eff (Wanted.free rfl) (E.store1 rfl rfl rfl rfl rfl sz3 pickX rfl) rfl ?_
  rintro _ _ rfl
  refine RL.val (Wanted.free rfl) (V.nilCheck rfl rfl) rfl ?_
  refine RL.val (Wanted.free rfl) (V.fieldAddr rfl rfl fo94_0) rfl ?_
  refine RL.val (Wanted.free rfl) (V.fieldAddr rfl rfl fo26_7) rfl ?_
  refine RL.eff (Wanted.free rfl) (E.store1 rfl rfl rfl rfl rfl sz24 pickX rfl) rfl ?_
  rintro _ _ rfl
  refine RL.val (Wanted.free rfl) (V.nilCheck rfl rfl) rfl ?_
  refine RL.val (Wanted.free rfl) (V.fieldAddr rfl rfl fo94_0) rfl ?_
  refine RL.val (Wanted.free rfl) (V.fieldAddr rfl rfl fo26_8) rfl ?_
  refine RL.eff (Wanted.free rfl) (E.store1 rfl rfl rfl rfl rfl sz22 pickX rfl) rfl ?_
  rintro _ _ rfl
  refine RL.nil ?_
  refine SG.seq ?_
  refine SG.join (ι := Unit) (fun _ => [(3, ptr b3 0), (4, ptr b4 0), (6, ptr b9 0), (7, vB (decide (m.term < (Rp.raised p m).term)))]) (fun _ => Nd b9 (Rp.raised p m) [] :: Sl RSlot sa sn sc m.slots :: Blk b3 50 (mv m (.slice sa sn sc)) :: Blk b4 26 [.int .i64 0, .int .i64 0, .int .i64 0, .int .i64 0, .int .i64 0, .int .i64 0, .slice none 0 0, .slice none 0 0, .slice none 0 0] :: L) (fun _ => True) ?_ (fun rest => ?_)
  ·
   rintro _ _
   try dsimp only
   have hh : handle p m = (if m.term < (Rp.raised p m).term ∨ m.yes = false then (Rp.raised p m) else votedP (Rp.raised p m) m, []) := by rw [handle, if_neg (by unfold strange; omega), handleQ]; simp [hk]
   rw [hh]
   obtain ⟨hqi, hqn⟩ := raised_id p m
   obtain ⟨qn1, qn5, qi0, qi1, qt0, qt1, qll, qlv, qlm, qvn, qmn, qc0, qc1, qmm, qdd⟩ := raised_ok ho hmo
   generalize Rp.raised p m = q at *
   refine SG.seq ?_
   refine SG.seq ?_
   refine SG.region ?_
   refine RL.val (Wanted.free rfl) (V.fieldAddr rfl rfl fo50_0) rfl ?_
   refine RL.val (Wanted.free rfl) (V.load rfl on3 rfl pickX rfl) rfl ?_
   refine RL.nil ?_
   refine SG.block ?_
   refine SG.seq ?_
   refine SG.block ?_
   refine SG.block ?_
   refine SG.seq ?_
   refine SG.seq ?_
   refine SG.seq ?_
   refine SG.region ?_
   refine RL.cmpF (Wanted.free rfl) (V.bin rfl rfl rfl B.eql) rfl (by omega) ?_
   refine RL.val (Wanted.free rfl) (V.assign rfl rfl) rfl ?_
   refine RL.nil ?_
   refine SG.cond_false rfl ?_
   refine SG.skip ?_
   refine SG.seq ?_
   refine SG.region ?_
   refine RL.cmpT (Wanted.free rfl) (V.bin rfl rfl rfl B.eql) rfl (by omega) ?_
   refine RL.val (Wanted.free rfl) (V.assign rfl rfl) rfl ?_
   refine RL.nil ?_
   refine SG.cond_true rfl ?_
   refine SG.exit rfl ?_
   refine SG.seq ?_
   refine SG.seq ?_
   refine SG.region ?_
   refine RL.val (Wanted.free rfl) (V.move rfl rfl) rfl ?_
   refine RL.val (Wanted.free rfl) (V.move rfl rfl) rfl ?_
   refine RL.split 93 rfl (fun g72 => ?_) (fun g72 => ?_)
   ·
    refine RL.skip (Wanted.no rfl rfl rfl rfl rfl) rfl ?_
    refine RL.skip (Wanted.no rfl rfl rfl rfl rfl) rfl ?_
    refine RL.skip (Wanted.no rfl rfl rfl rfl rfl) rfl ?_
    refine RL.val (Wanted.free rfl) (V.pick_true rfl rfl rfl) rfl ?_
    refine RL.nil ?_
    refine SG.cond_true rfl ?_
    refine SG.seq ?_
    have hlate : m.term < q.term ∨ m.yes = false := by first | exact .inl (of_decide_eq_true (by assumption)) | exact .inr hyf
    rw [if_pos hlate]
    refine SG.openNd Pick.here fun la ln lc va vn vc ma mn mc oa on oc => ?_
    refine SG.publish (T := RSlot) (a := la) pickX ?_
    refine SG.publish (T := RB) (a := va) pickX ?_
    refine SG.publish (T := RI) (a := ma) pickX ?_
    refine SG.ent (RPeer.mk (p := q) memX memX memX) ?_
    refine SG.ent (Sl.nil (T := RMsg)) ?_
    refine SG.region ?_
    refine RL.val (Wanted.free rfl) (V.move rfl rfl) rfl ?_
    refine RL.val (Wanted.free rfl) (V.nilCheck rfl rfl) rfl ?_
    refine RL.val (Wanted.free rfl) (V.fieldAddr rfl rfl fo94_0) rfl ?_
    refine RL.val (Wanted.free rfl) (V.loadAgg (us := pv q (.slice la ln lc) (.slice va vn vc) (.slice ma mn mc)) rfl ag26 rfl pickX rfl rfl) rfl ?_
    refine RL.eff (Wanted.free rfl) (E.storeWhole rfl rfl rfl (by rfl) sz26 pickX pv_one (by rfl)) rfl ?_
    rintro _ _ rfl
    refine RL.val (Wanted.free rfl) (V.assign rfl rfl) rfl ?_
    refine RL.nil ?_
    refine SG.retE (Ret.r2 Try.func30 rfl (.agg rfl ag26 pickX rfl rfl) (.tmp rfl)) ?_ ⟨_, _, _, rfl, rfl⟩
    exact entX
   ·
    refine RL.val (Wanted.yes rfl rfl rfl rfl) (V.fieldAddr rfl rfl fo50_8) rfl ?_
    refine RL.val (Wanted.yes rfl rfl rfl rfl) (V.load rfl on4 rfl pickX rfl) rfl ?_
    refine RL.val (Wanted.yes rfl rfl rfl rfl) (V.not rfl rfl) rfl ?_
    refine RL.val (Wanted.free rfl) (V.pick_false rfl rfl rfl) rfl ?_
    refine RL.nil ?_
    refine SG.cond rfl (fun h81 => ?_) (fun h81 => ?_)
    ·
     have hyf : m.yes = false := by simpa using h81
     refine SG.seq ?_
     have hlate : m.term < q.term ∨ m.yes = false := by first | exact .inl (of_decide_eq_true (by assumption)) | exact .inr hyf
     rw [if_pos hlate]
     refine SG.openNd Pick.here fun la ln lc va vn vc ma mn mc oa on oc => ?_
     refine SG.publish (T := RSlot) (a := la) pickX ?_
     refine SG.publish (T := RB) (a := va) pickX ?_
     refine SG.publish (T := RI) (a := ma) pickX ?_
     refine SG.ent (RPeer.mk (p := q) memX memX memX) ?_
     refine SG.ent (Sl.nil (T := RMsg)) ?_
     refine SG.region ?_
     refine RL.val (Wanted.free rfl) (V.move rfl rfl) rfl ?_
     refine RL.val (Wanted.free rfl) (V.nilCheck rfl rfl) rfl ?_
     refine RL.val (Wanted.free rfl) (V.fieldAddr rfl rfl fo94_0) rfl ?_
     refine RL.val (Wanted.free rfl) (V.loadAgg (us := pv q (.slice la ln lc) (.slice va vn vc) (.slice ma mn mc)) rfl ag26 rfl pickX rfl rfl) rfl ?_
     refine RL.eff (Wanted.free rfl) (E.storeWhole rfl rfl rfl (by rfl) sz26 pickX pv_one (by rfl)) rfl ?_
     rintro _ _ rfl
     refine RL.val (Wanted.free rfl) (V.assign rfl rfl) rfl ?_
     refine RL.nil ?_
     refine SG.retE (Ret.r2 Try.func30 rfl (.agg rfl ag26 pickX rfl rfl) (.tmp rfl)) ?_ ⟨_, _, _, rfl, rfl⟩
     exact entX
    ·
     have hyt : m.yes = true := by simpa using h81
     refine SG.skip ?_
     refine SG.exit rfl ?_
     refine SG.seq ?_
     have hlate : ¬ (m.term < q.term ∨ m.yes = false) := by
      rintro (h | h)
      ·
       exact absurd h (of_decide_eq_false (by assumption))
      ·
       rw [hyt] at h; cases h
     rw [if_neg hlate]
     refine SG.ent (RMsg.mk (m := m) (a := sa) (n' := sn) (c := sc) memX) ?_
     refine SG.drawN 8 8 (Blk b3 50 (mv m (.slice sa sn sc)) :: L) wide rfl rfl (by repeat (first | exact Ent.refl _ | (apply Ent.cons; (· repeat (first | exact Pick.here | (refine Pick.sl ?_; (· repeat (first | exact List.Mem.head _ | assumption | apply List.Mem.tail))) | apply Pick.there))) | (refine Ent.trans (Ent.drop _ _) ?_))) ?_
     refine RH.val 0 rfl krX krX krX krX (Wanted.free rfl) (V.buildA (cs := [.func (.func 70) #[] #[], .func (.func 71) #[] #[], .func (.func 72) #[] #[], .func (.func 73) #[] #[]]) [(0, _), (1, _), (2, _), (3, _)] rfl ba101 (by exact ⟨rfl, ⟨_, rfl, rfl⟩, ⟨rfl, ⟨_, rfl, rfl⟩, ⟨rfl, ⟨_, rfl, rfl⟩, ⟨rfl, ⟨_, rfl, rfl⟩, trivial⟩⟩⟩⟩) rfl) rfl ?_
     refine RH.val 1 rfl krX krX krX krX (Wanted.free rfl) (V.fieldAddr rfl rfl fo50_0) rfl ?_
     refine RH.val 2 rfl krX krX krX krX (Wanted.free rfl) (V.load rfl on3 rfl pickX rfl) rfl ?_
     refine RH.val 3 rfl krX krX krX krX (Wanted.free rfl) (V.bin rfl rfl rfl (B.subI (by omega) (by omega))) rfl ?_
     refine RH.val 4 rfl krX krX krX krX (Wanted.free rfl) (V.indexA (j := 1) rfl ar101 (one_of krX) rfl rfl rfl (by omega) rfl) rfl ?_
     refine RH.val 5 rfl krX krX krX krX (Wanted.free rfl) (V.move rfl rfl) rfl ?_
     refine RH.val 6 rfl krX krX krX krX (Wanted.free rfl) (V.loadAgg (us := mv m (.slice sa sn sc)) rfl ag50 rfl pickX rfl rfl) rfl ?_
     refine RH.one (i := 7) krX ?_
     refine RHone.eff rfl (Wanted.free rfl) (E.callV rfl rfl go71 rfl (voted_okw (p := q) (out := []) (us := mv m (.slice sa sn sc)) (m := m) pickX memX (by simp) qll qlv qlm qn1 qn5 qi0 qi1 qt0 qt1 qvn hf0 (by omega))) rfl ?_
     rintro _ _ ⟨rfl, rfl⟩
     refine ⟨.inr entX, ?_⟩
     refine RH.done krX ?_
     refine SG.seq ?_
     refine SG.openNd (p := (votedP q m)) pickX fun la ln lc va vn vc ma mn mc oa on oc => ?_
     refine SG.buf (T := RMsg) (a := oa) pickX fun hol _ _ => ?_
     subst hol
     refine SG.publish (T := RSlot) (a := la) pickX ?_
     refine SG.publish (T := RB) (a := va) pickX ?_
     refine SG.publish (T := RI) (a := ma) pickX ?_
     refine SG.ent (RPeer.mk (p := (votedP q m)) memX memX memX) ?_
     refine SG.publish (T := RMsg) (a := oa) pickX ?_
     refine SG.drawP1 10 4 wide rfl rfl rfl pickX ?_
     refine RH.val 0 rfl krX krX krX krX (Wanted.free rfl) (V.move rfl rfl) rfl ?_
     refine RH.val 1 rfl krX krX krX krX (Wanted.free rfl) (V.nilCheck rfl rfl) rfl ?_
     refine RH.val 2 rfl krX krX krX krX (Wanted.free rfl) (V.fieldAddr rfl rfl fo94_0) rfl ?_
     refine RH.val 3 rfl krX krX krX krX (Wanted.free rfl) (V.loadAgg (us := pv (votedP q m) (.slice la ln lc) (.slice va vn vc) (.slice ma mn mc)) rfl ag26 rfl pickX rfl rfl) rfl ?_
     refine RH.val 4 rfl krX krX krX krX (Wanted.free rfl) (V.move rfl rfl) rfl ?_
     refine RH.val 5 rfl krX krX krX krX (Wanted.free rfl) (V.nilCheck rfl rfl) rfl ?_
     refine RH.val 6 rfl krX krX krX krX (Wanted.free rfl) (V.fieldAddr rfl rfl fo94_1) rfl ?_
     refine RH.val 7 rfl krX krX krX krX (Wanted.free rfl) (V.load rfl on35 rfl pickX rfl) rfl ?_
     refine RH.one (i := 8) krX ?_
     refine RHone.eff rfl (Wanted.free rfl) (E.storeWhole rfl rfl rfl (by rfl) sz26 pickX pv_one (by rfl)) rfl ?_
     rintro _ _ rfl
     refine ⟨.inr entX, ?_⟩
     refine RH.val 9 rfl krX krX krX krX (Wanted.free rfl) (V.assign rfl rfl) rfl ?_
     refine RH.done krX ?_
     refine SG.retE (Ret.r2 Try.func30 rfl (.agg rfl ag26 pickX rfl rfl) (.tmp rfl)) ?_ ⟨_, _, _, rfl, rfl⟩
     exact entX
  ·
   have hq := raised_yes (p := p) (m := m) (by omega)
   refine SG.ent (Ent.trans (Buf.nil (T := RB) (e := 4)) (Buf.nil (T := RI) (e := 3))) ?_
   refine SG.ent (?_ : Ent _ (Blk b9 94 (nv (down p m.term) (.slice la ln lc) (.slice none 0 0) (.slice none 0 0) (.slice oa on oc)) :: Buf RSlot 53 la ln lc p.log :: Buf RB 4 none 0 0 [] :: Buf RI 3 none 0 0 [] :: Buf RMsg 50 oa on oc [] :: Sl RSlot sa sn sc m.slots :: Blk b3 50 (mv m (.slice sa sn sc)) :: Blk b4 26 [.int .i64 0, .int .i64 0, .int .i64 0, .int .i64 0, .int .i64 0, .int .i64 0, .slice none 0 0, .slice none 0 0, .slice none 0 0] :: L)) ?_
   ·
    exact entX
   refine SG.drawL 9 9 wide rfl rfl ?_
   refine RH.val 0 rfl krX krX krX krX (Wanted.free rfl) (V.fieldAddr rfl rfl fo50_3) rfl ?_
   refine RH.val 1 rfl krX krX krX krX (Wanted.free rfl) (V.load rfl on3 rfl pickX rfl) rfl ?_
   refine RH.val 2 rfl krX krX krX krX (Wanted.free rfl) (V.move rfl rfl) rfl ?_
   refine RH.val 3 rfl krX krX krX krX (Wanted.free rfl) (V.nilCheck rfl rfl) rfl ?_
   refine RH.val 4 rfl krX krX krX krX (Wanted.free rfl) (V.fieldAddr rfl rfl fo94_0) rfl ?_
   refine RH.val 5 rfl krX krX krX krX (Wanted.free rfl) (V.fieldAddr rfl rfl fo26_2) rfl ?_
   refine RH.val 6 rfl krX krX krX krX (Wanted.free rfl) (V.load rfl on3 rfl pickX rfl) rfl ?_
   refine RH.cmp 7 rfl krX krX krX krX (Wanted.free rfl) (V.bin rfl rfl rfl B.lss) rfl (fun h113 => ?_) (fun h113 => ?_)
   ·
    refine RH.val 8 rfl krX krX krX krX (Wanted.free rfl) (V.assign rfl rfl) rfl ?_
    refine RH.done krX ?_
    refine SG.weaken (rest () trivial) ?_ ?_
    ·
     repeat (first | exact EnvLe.nil _ | refine EnvLe.cons (by first | rfl | (rw [hq]; first | exact congrArg (fun x => some (Value.bool x)) (decide_eq_true (by first | omega | assumption)).symm | exact congrArg (fun x => some (Value.bool x)) (decide_eq_false (by first | omega | assumption)).symm)) ?_)
    ·
     rw [hq]
     refine Nd.ent (la := la) (ln := ln) (lc := lc) (va := none) (vn := 0) (vc := 0) (ma := none) (mn := 0) (mc := 0) (oa := oa) (on := on) (oc := oc) ?_
     exact entX
   ·
    refine RH.val 8 rfl krX krX krX krX (Wanted.free rfl) (V.assign rfl rfl) rfl ?_
    refine RH.done krX ?_
    refine SG.weaken (rest () trivial) ?_ ?_
    ·
     repeat (first | exact EnvLe.nil _ | refine EnvLe.cons (by first | rfl | (rw [hq]; first | exact congrArg (fun x => some (Value.bool x)) (decide_eq_true (by first | omega | assumption)).symm | exact congrArg (fun x => some (Value.bool x)) (decide_eq_false (by first | omega | assumption)).symm)) ?_)
    ·
     rw [hq]
     refine Nd.ent (la := la) (ln := ln) (lc := lc) (va := none) (vn := 0) (vc := 0) (ma := none) (mn := 0) (mc := 0) (oa := oa) (on := on) (oc := oc) ?_
     exact entX
 ·
  refine RH.done krX ?_
  refine SG.cond_false rfl ?_
  refine SG.skip ?_
  refine SG.seq ?_
  refine SG.join (ι := Unit) (fun _ => [(3, ptr b3 0), (4, ptr b4 0), (6, ptr b9 0), (7, vB (decide (m.term < (Rp.raised p m).term)))]) (fun _ => Nd b9 (Rp.raised p m) [] :: Sl RSlot sa sn sc m.slots :: Blk b3 50 (mv m (.slice sa sn sc)) :: Blk b4 26 [.int .i64 0, .int .i64 0, .int .i64 0, .int .i64 0, .int .i64 0, .int .i64 0, .slice none 0 0, .slice none 0 0, .slice none 0 0] :: L) (fun _ => True) ?_ (fun rest => ?_)
  ·
   rintro _ _
   try dsimp only
   have hh : handle p m = (if m.term < (Rp.raised p m).term ∨ m.yes = false then (Rp.raised p m) else votedP (Rp.raised p m) m, []) := by rw [handle, if_neg (by unfold strange; omega), handleQ]; simp [hk]
   rw [hh]
   obtain ⟨hqi, hqn⟩ := raised_id p m
   obtain ⟨qn1, qn5, qi0, qi1, qt0, qt1, qll, qlv, qlm, qvn, qmn, qc0, qc1, qmm, qdd⟩ := raised_ok ho hmo
   generalize Rp.raised p m = q at *
   refine SG.seq ?_
   refine SG.seq ?_
   refine SG.region ?_
   refine RL.val (Wanted.free rfl) (V.fieldAddr rfl rfl fo50_0) rfl ?_
   refine RL.val (Wanted.free rfl) (V.load rfl on3 rfl pickX rfl) rfl ?_
   refine RL.nil ?_
   refine SG.block ?_
   refine SG.seq ?_
   refine SG.block ?_
   refine SG.block ?_
   refine SG.seq ?_
   refine SG.seq ?_
   refine SG.seq ?_
   refine SG.region ?_
   refine RL.cmpF (Wanted.free rfl) (V.bin rfl rfl rfl B.eql) rfl (by omega) ?_
   refine RL.val (Wanted.free rfl) (V.assign rfl rfl) rfl ?_
   refine RL.nil ?_
   refine SG.cond_false rfl ?_
   refine SG.skip ?_
   refine SG.seq ?_
   refine SG.region ?_
   refine RL.cmpT (Wanted.free rfl) (V.bin rfl rfl rfl B.eql) rfl (by omega) ?_
   refine RL.val (Wanted.free rfl) (V.assign rfl rfl) rfl ?_
   refine RL.nil ?_
   refine SG.cond_true rfl ?_
   refine SG.exit rfl ?_
   refine SG.seq ?_
   refine SG.seq ?_
   refine SG.region ?_
   refine RL.val (Wanted.free rfl) (V.move rfl rfl) rfl ?_
   refine RL.val (Wanted.free rfl) (V.move rfl rfl) rfl ?_
   refine RL.split 93 rfl (fun g122 => ?_) (fun g122 => ?_)
   ·
    refine RL.skip (Wanted.no rfl rfl rfl rfl rfl) rfl ?_
    refine RL.skip (Wanted.no rfl rfl rfl rfl rfl) rfl ?_
    refine RL.skip (Wanted.no rfl rfl rfl rfl rfl) rfl ?_
    refine RL.val (Wanted.free rfl) (V.pick_true rfl rfl rfl) rfl ?_
    refine RL.nil ?_
    refine SG.cond_true rfl ?_
    refine SG.seq ?_
    have hlate : m.term < q.term ∨ m.yes = false := by first | exact .inl (of_decide_eq_true (by assumption)) | exact .inr hyf
    rw [if_pos hlate]
    refine SG.openNd Pick.here fun la ln lc va vn vc ma mn mc oa on oc => ?_
    refine SG.publish (T := RSlot) (a := la) pickX ?_
    refine SG.publish (T := RB) (a := va) pickX ?_
    refine SG.publish (T := RI) (a := ma) pickX ?_
    refine SG.ent (RPeer.mk (p := q) memX memX memX) ?_
    refine SG.ent (Sl.nil (T := RMsg)) ?_
    refine SG.region ?_
    refine RL.val (Wanted.free rfl) (V.move rfl rfl) rfl ?_
    refine RL.val (Wanted.free rfl) (V.nilCheck rfl rfl) rfl ?_
    refine RL.val (Wanted.free rfl) (V.fieldAddr rfl rfl fo94_0) rfl ?_
    refine RL.val (Wanted.free rfl) (V.loadAgg (us := pv q (.slice la ln lc) (.slice va vn vc) (.slice ma mn mc)) rfl ag26 rfl pickX rfl rfl) rfl ?_
    refine RL.eff (Wanted.free rfl) (E.storeWhole rfl rfl rfl (by rfl) sz26 pickX pv_one (by rfl)) rfl ?_
    rintro _ _ rfl
    refine RL.val (Wanted.free rfl) (V.assign rfl rfl) rfl ?_
    refine RL.nil ?_
    refine SG.retE (Ret.r2 Try.func30 rfl (.agg rfl ag26 pickX rfl rfl) (.tmp rfl)) ?_ ⟨_, _, _, rfl, rfl⟩
    exact entX
   ·
    refine RL.val (Wanted.yes rfl rfl rfl rfl) (V.fieldAddr rfl rfl fo50_8) rfl ?_
    refine RL.val (Wanted.yes rfl rfl rfl rfl) (V.load rfl on4 rfl pickX rfl) rfl ?_
    refine RL.val (Wanted.yes rfl rfl rfl rfl) (V.not rfl rfl) rfl ?_
    refine RL.val (Wanted.free rfl) (V.pick_false rfl rfl rfl) rfl ?_
    refine RL.nil ?_
    refine SG.cond rfl (fun h131 => ?_) (fun h131 => ?_)
    ·
     have hyf : m.yes = false := by simpa using h131
     refine SG.seq ?_
     have hlate : m.term < q.term ∨ m.yes = false := by first | exact .inl (of_decide_eq_true (by assumption)) | exact .inr hyf
     rw [if_pos hlate]
     refine SG.openNd Pick.here fun la ln lc va vn vc ma mn mc oa on oc => ?_
     refine SG.publish (T := RSlot) (a := la) pickX ?_
     refine SG.publish (T := RB) (a := va) pickX ?_
     refine SG.publish (T := RI) (a := ma) pickX ?_
     refine SG.ent (RPeer.mk (p := q) memX memX memX) ?_
     refine SG.ent (Sl.nil (T := RMsg)) ?_
     refine SG.region ?_
     refine RL.val (Wanted.free rfl) (V.move rfl rfl) rfl ?_
     refine RL.val (Wanted.free rfl) (V.nilCheck rfl rfl) rfl ?_
     refine RL.val (Wanted.free rfl) (V.fieldAddr rfl rfl fo94_0) rfl ?_
     refine RL.val (Wanted.free rfl) (V.loadAgg (us := pv q (.slice la ln lc) (.slice va vn vc) (.slice ma mn mc)) rfl ag26 rfl pickX rfl rfl) rfl ?_
     refine RL.eff (Wanted.free rfl) (E.storeWhole rfl rfl rfl (by rfl) sz26 pickX pv_one (by rfl)) rfl ?_
     rintro _ _ rfl
     refine RL.val (Wanted.free rfl) (V.assign rfl rfl) rfl ?_
     refine RL.nil ?_
     refine SG.retE (Ret.r2 Try.func30 rfl (.agg rfl ag26 pickX rfl rfl) (.tmp rfl)) ?_ ⟨_, _, _, rfl, rfl⟩
     exact entX
    ·
     have hyt : m.yes = true := by simpa using h131
     refine SG.skip ?_
     refine SG.exit rfl ?_
     refine SG.seq ?_
     have hlate : ¬ (m.term < q.term ∨ m.yes = false) := by
      rintro (h | h)
      ·
       exact absurd h (of_decide_eq_false (by assumption))
      ·
       rw [hyt] at h; cases h
     rw [if_neg hlate]
     refine SG.ent (RMsg.mk (m := m) (a := sa) (n' := sn) (c := sc) memX) ?_
     refine SG.drawN 8 8 (Blk b3 50 (mv m (.slice sa sn sc)) :: L) wide rfl rfl (by repeat (first | exact Ent.refl _ | (apply Ent.cons; (· repeat (first | exact Pick.here | (refine Pick.sl ?_; (· repeat (first | exact List.Mem.head _ | assumption | apply List.Mem.tail))) | apply Pick.there))) | (refine Ent.trans (Ent.drop _ _) ?_))) ?_
     refine RH.val 0 rfl krX krX krX krX (Wanted.free rfl) (V.buildA (cs := [.func (.func 70) #[] #[], .func (.func 71) #[] #[], .func (.func 72) #[] #[], .func (.func 73) #[] #[]]) [(0, _), (1, _), (2, _), (3, _)] rfl ba101 (by exact ⟨rfl, ⟨_, rfl, rfl⟩, ⟨rfl, ⟨_, rfl, rfl⟩, ⟨rfl, ⟨_, rfl, rfl⟩, ⟨rfl, ⟨_, rfl, rfl⟩, trivial⟩⟩⟩⟩) rfl) rfl ?_
     refine RH.val 1 rfl krX krX krX krX (Wanted.free rfl) (V.fieldAddr rfl rfl fo50_0) rfl ?_
     refine RH.val 2 rfl krX krX krX krX (Wanted.free rfl) (V.load rfl on3 rfl pickX rfl) rfl ?_
     refine RH.val 3 rfl krX krX krX krX (Wanted.free rfl) (V.bin rfl rfl rfl (B.subI (by omega) (by omega))) rfl ?_
     refine RH.val 4 rfl krX krX krX krX (Wanted.free rfl) (V.indexA (j := 1) rfl ar101 (one_of krX) rfl rfl rfl (by omega) rfl) rfl ?_
     refine RH.val 5 rfl krX krX krX krX (Wanted.free rfl) (V.move rfl rfl) rfl ?_
     refine RH.val 6 rfl krX krX krX krX (Wanted.free rfl) (V.loadAgg (us := mv m (.slice sa sn sc)) rfl ag50 rfl pickX rfl rfl) rfl ?_
     refine RH.one (i := 7) krX ?_
     refine RHone.eff rfl (Wanted.free rfl) (E.callV rfl rfl go71 rfl (voted_okw (p := q) (out := []) (us := mv m (.slice sa sn sc)) (m := m) pickX memX (by simp) qll qlv qlm qn1 qn5 qi0 qi1 qt0 qt1 qvn hf0 (by omega))) rfl ?_
     rintro _ _ ⟨rfl, rfl⟩
     refine ⟨.inr entX, ?_⟩
     refine RH.done krX ?_
     refine SG.seq ?_
     refine SG.openNd (p := (votedP q m)) pickX fun la ln lc va vn vc ma mn mc oa on oc => ?_
     refine SG.buf (T := RMsg) (a := oa) pickX fun hol _ _ => ?_
     subst hol
     refine SG.publish (T := RSlot) (a := la) pickX ?_
     refine SG.publish (T := RB) (a := va) pickX ?_
     refine SG.publish (T := RI) (a := ma) pickX ?_
     refine SG.ent (RPeer.mk (p := (votedP q m)) memX memX memX) ?_
     refine SG.publish (T := RMsg) (a := oa) pickX ?_
     refine SG.drawP1 10 4 wide rfl rfl rfl pickX ?_
     refine RH.val 0 rfl krX krX krX krX (Wanted.free rfl) (V.move rfl rfl) rfl ?_
     refine RH.val 1 rfl krX krX krX krX (Wanted.free rfl) (V.nilCheck rfl rfl) rfl ?_
     refine RH.val 2 rfl krX krX krX krX (Wanted.free rfl) (V.fieldAddr rfl rfl fo94_0) rfl ?_
     refine RH.val 3 rfl krX krX krX krX (Wanted.free rfl) (V.loadAgg (us := pv (votedP q m) (.slice la ln lc) (.slice va vn vc) (.slice ma mn mc)) rfl ag26 rfl pickX rfl rfl) rfl ?_
     refine RH.val 4 rfl krX krX krX krX (Wanted.free rfl) (V.move rfl rfl) rfl ?_
     refine RH.val 5 rfl krX krX krX krX (Wanted.free rfl) (V.nilCheck rfl rfl) rfl ?_
     refine RH.val 6 rfl krX krX krX krX (Wanted.free rfl) (V.fieldAddr rfl rfl fo94_1) rfl ?_
     refine RH.val 7 rfl krX krX krX krX (Wanted.free rfl) (V.load rfl on35 rfl pickX rfl) rfl ?_
     refine RH.one (i := 8) krX ?_
     refine RHone.eff rfl (Wanted.free rfl) (E.storeWhole rfl rfl rfl (by rfl) sz26 pickX pv_one (by rfl)) rfl ?_
     rintro _ _ rfl
     refine ⟨.inr entX, ?_⟩
     refine RH.val 9 rfl krX krX krX krX (Wanted.free rfl) (V.assign rfl rfl) rfl ?_
     refine RH.done krX ?_
     refine SG.retE (Ret.r2 Try.func30 rfl (.agg rfl ag26 pickX rfl rfl) (.tmp rfl)) ?_ ⟨_, _, _, rfl, rfl⟩
     exact entX
  ·
   have hq := raised_no (p := p) (m := m) (by omega)
   refine SG.drawL 9 9 wide rfl rfl ?_
   refine RH.val 0 rfl krX krX krX krX (Wanted.free rfl) (V.fieldAddr rfl rfl fo50_3) rfl ?_
   refine RH.val 1 rfl krX krX krX krX (Wanted.free rfl) (V.load rfl on3 rfl pickX rfl) rfl ?_
   refine RH.val 2 rfl krX krX krX krX (Wanted.free rfl) (V.move rfl rfl) rfl ?_
   refine RH.val 3 rfl krX krX krX krX (Wanted.free rfl) (V.nilCheck rfl rfl) rfl ?_
   refine RH.val 4 rfl krX krX krX krX (Wanted.free rfl) (V.fieldAddr rfl rfl fo94_0) rfl ?_
   refine RH.val 5 rfl krX krX krX krX (Wanted.free rfl) (V.fieldAddr rfl rfl fo26_2) rfl ?_
   refine RH.val 6 rfl krX krX krX krX (Wanted.free rfl) (V.load rfl on3 rfl pickX rfl) rfl ?_
   refine RH.cmp 7 rfl krX krX krX krX (Wanted.free rfl) (V.bin rfl rfl rfl B.lss) rfl (fun h163 => ?_) (fun h163 => ?_)
   ·
    refine RH.val 8 rfl krX krX krX krX (Wanted.free rfl) (V.assign rfl rfl) rfl ?_
    refine RH.done krX ?_
    refine SG.weaken (rest () trivial) ?_ ?_
    ·
     repeat (first | exact EnvLe.nil _ | refine EnvLe.cons (by first | rfl | (rw [hq]; first | exact congrArg (fun x => some (Value.bool x)) (decide_eq_true (by first | omega | assumption)).symm | exact congrArg (fun x => some (Value.bool x)) (decide_eq_false (by first | omega | assumption)).symm)) ?_)
    ·
     rw [hq]
     refine Nd.ent (la := la) (ln := ln) (lc := lc) (va := va) (vn := vn) (vc := vc) (ma := ma) (mn := mn) (mc := mc) (oa := oa) (on := on) (oc := oc) ?_
     exact entX
   ·
    refine RH.val 8 rfl krX krX krX krX (Wanted.free rfl) (V.assign rfl rfl) rfl ?_
    refine RH.done krX ?_
    refine SG.weaken (rest () trivial) ?_ ?_
    ·
     repeat (first | exact EnvLe.nil _ | refine EnvLe.cons (by first | rfl | (rw [hq]; first | exact congrArg (fun x => some (Value.bool x)) (decide_eq_true (by first | omega | assumption)).symm | exact congrArg (fun x => some (Value.bool x)) (decide_eq_false (by first | omega | assumption)).symm)) ?_)
    ·
     rw [hq]
     refine Nd.ent (la := la) (ln := ln) (lc := lc) (va := va) (vn := vn) (vc := vc) (ma := ma) (mn := mn) (mc := mc) (oa := oa) (on := on) (oc := oc) ?_
     exact entX

set_option maxRecDepth 100000 in
set_option maxHeartbeats 1000000 in
theorem handle_k3 {κ : World} {L : List Assn} {us ms : List Value} {p : Peer} {m : Msg} (hm : Rd RPeer us p ∈ L) (hmm : Rd RMsg ms m ∈ L) (ho : POk p) (hmo : MOk m) (hk : m.kind = 3) (h1 : m.to = p.id) (hf0 : 0 ≤ m.frm) (hf1 : m.frm < p.nodes) (hf2 : m.frm ≠ p.id) :
    Ctr Try.prog 30 #[.agg us.toArray, .agg ms.toArray] κ L (fun v M => ∃ us' a c, v = .tuple #[.agg us'.toArray, .slice a (handle p m).2.length c] ∧ M = Rd RPeer us' (handle p m).1 :: Sl RMsg a (handle p m).2.length c (handle p m).2 :: L) := by
 refine Ctr.enter (vs := [.agg us.toArray, .agg ms.toArray]) (m := 118) Try.func30 rfl rfl rfl ?_
 refine SG.openPeer (Pick.rd hm) fun ka kn kc wa wn wc xa xn xc hus => ?_
 subst hus
 refine SG.openMsg (Pick.rd (show Rd RMsg ms m ∈ _ from memX)) fun sa sn sc hms => ?_
 subst hms
 obtain ⟨n1, n5, i0, i1, t0, t1, ll, lv, lm, vn, mn, c0, c1, mm, dd⟩ := id ho
 have hm0 := hmo.t0
 have hm1 := hmo.t1
 refine SG.seq ?_
 refine SG.region ?_
 refine RL.eff (Wanted.free rfl) (E.box _ rfl rfl rfl) rfl ?_
 rintro _ _ ⟨b2, rfl, rfl⟩
 refine RL.eff (Wanted.free rfl) (E.box _ rfl rfl rfl) rfl ?_
 rintro _ _ ⟨b3, rfl, rfl⟩
 refine RL.eff (Wanted.free rfl) (E.alloc rfl ze26) rfl ?_
 rintro _ _ ⟨b4, rfl, rfl⟩
 refine RL.val (Wanted.free rfl) (V.assign rfl rfl) rfl ?_
 refine RL.nil ?_
 refine SG.seq ?_
 refine SG.region ?_
 refine RL.val (Wanted.free rfl) (V.loadAgg (us := pv p (.slice ka kn kc) (.slice wa wn wc) (.slice xa xn xc)) rfl ag26 rfl pickX rfl rfl) rfl ?_
 refine RL.eff (Wanted.free rfl) (E.call rfl go57 rfl (copied_ok (us := pv p (.slice ka kn kc) (.slice wa wn wc) (.slice xa xn xc)) (p := p) memX (by omega) (by omega) (by omega))) rfl ?_
 rintro _ _ ⟨b9, rfl, rfl⟩
 refine RL.val (Wanted.free rfl) (V.assign rfl rfl) rfl ?_
 refine RL.nil ?_
 refine SG.seq ?_
 refine SG.seq ?_
 refine SG.region ?_
 refine RL.val (Wanted.free rfl) (V.fieldAddr rfl rfl fo50_2) rfl ?_
 refine RL.val (Wanted.free rfl) (V.load rfl on3 rfl pickX rfl) rfl ?_
 refine RL.val (Wanted.free rfl) (V.fieldAddr rfl rfl fo26_0) rfl ?_
 refine RL.val (Wanted.free rfl) (V.load rfl on3 rfl pickX rfl) rfl ?_
 refine RL.cmpF (Wanted.free rfl) (V.bin rfl rfl rfl B.neq) rfl (by omega) ?_
 refine RL.val (Wanted.free rfl) (V.move rfl rfl) rfl ?_
 refine RL.val (Wanted.yes rfl rfl rfl rfl) (V.fieldAddr rfl rfl fo50_1) rfl ?_
 refine RL.val (Wanted.yes rfl rfl rfl rfl) (V.load rfl on3 rfl pickX rfl) rfl ?_
 refine RL.cmpF (Wanted.yes rfl rfl rfl rfl) (V.bin rfl rfl rfl B.lss) rfl (by omega) ?_
 refine RL.val (Wanted.free rfl) (V.pick_false rfl rfl rfl) rfl ?_
 refine RL.val (Wanted.free rfl) (V.move rfl rfl) rfl ?_
 refine RL.val (Wanted.yes rfl rfl rfl rfl) (V.fieldAddr rfl rfl fo50_1) rfl ?_
 refine RL.val (Wanted.yes rfl rfl rfl rfl) (V.load rfl on3 rfl pickX rfl) rfl ?_
 refine RL.val (Wanted.yes rfl rfl rfl rfl) (V.fieldAddr rfl rfl fo26_1) rfl ?_
 refine RL.val (Wanted.yes rfl rfl rfl rfl) (V.load rfl on3 rfl pickX rfl) rfl ?_
 refine RL.cmpF (Wanted.yes rfl rfl rfl rfl) (V.bin rfl rfl rfl B.geq) rfl (by omega) ?_
 refine RL.val (Wanted.free rfl) (V.pick_false rfl rfl rfl) rfl ?_
 refine RL.val (Wanted.free rfl) (V.move rfl rfl) rfl ?_
 refine RL.val (Wanted.yes rfl rfl rfl rfl) (V.fieldAddr rfl rfl fo50_1) rfl ?_
 refine RL.val (Wanted.yes rfl rfl rfl rfl) (V.load rfl on3 rfl pickX rfl) rfl ?_
 refine RL.val (Wanted.yes rfl rfl rfl rfl) (V.fieldAddr rfl rfl fo26_0) rfl ?_
 refine RL.val (Wanted.yes rfl rfl rfl rfl) (V.load rfl on3 rfl pickX rfl) rfl ?_
 refine RL.cmpF (Wanted.yes rfl rfl rfl rfl) (V.bin rfl rfl rfl B.eql) rfl (by omega) ?_
 refine RL.val (Wanted.free rfl) (V.pick_false rfl rfl rfl) rfl ?_
 refine RL.val (Wanted.free rfl) (V.move rfl rfl) rfl ?_
 refine RL.val (Wanted.yes rfl rfl rfl rfl) (V.fieldAddr rfl rfl fo50_0) rfl ?_
 refine RL.val (Wanted.yes rfl rfl rfl rfl) (V.load rfl on3 rfl pickX rfl) rfl ?_
 refine RL.cmpF (Wanted.yes rfl rfl rfl rfl) (V.bin rfl rfl rfl B.lss) rfl (by omega) ?_
 refine RL.val (Wanted.free rfl) (V.pick_false rfl rfl rfl) rfl ?_
 refine RL.val (Wanted.free rfl) (V.move rfl rfl) rfl ?_
 refine RL.val (Wanted.yes rfl rfl rfl rfl) (V.fieldAddr rfl rfl fo50_0) rfl ?_
 refine RL.val (Wanted.yes rfl rfl rfl rfl) (V.load rfl on3 rfl pickX rfl) rfl ?_
 refine RL.cmpF (Wanted.yes rfl rfl rfl rfl) (V.bin rfl rfl rfl B.gtr) rfl (by omega) ?_
 refine RL.val (Wanted.free rfl) (V.pick_false rfl rfl rfl) rfl ?_
 refine RL.nil ?_
 refine SG.cond_false rfl ?_
 refine SG.skip ?_
 refine SG.seq ?_
 refine SG.seq ?_
 refine SG.openNd Pick.here fun la ln lc va vn vc ma mn mc oa on oc => ?_
 refine SG.drawL 8 8 wide rfl rfl ?_
 refine RH.val 0 rfl krX krX krX krX (Wanted.free rfl) (V.fieldAddr rfl rfl fo50_3) rfl ?_
 refine RH.val 1 rfl krX krX krX krX (Wanted.free rfl) (V.load rfl on3 rfl pickX rfl) rfl ?_
 refine RH.val 2 rfl krX krX krX krX (Wanted.free rfl) (V.move rfl rfl) rfl ?_
 refine RH.val 3 rfl krX krX krX krX (Wanted.free rfl) (V.nilCheck rfl rfl) rfl ?_
 refine RH.val 4 rfl krX krX krX krX (Wanted.free rfl) (V.fieldAddr rfl rfl fo94_0) rfl ?_
 refine RH.val 5 rfl krX krX krX krX (Wanted.free rfl) (V.fieldAddr rfl rfl fo26_2) rfl ?_
 refine RH.val 6 rfl krX krX krX krX (Wanted.free rfl) (V.load rfl on3 rfl pickX rfl) rfl ?_
 refine RH.cmp 7 rfl krX krX krX krX (Wanted.free rfl) (V.bin rfl rfl rfl B.gtr) rfl (fun h38 => ?_) (fun h38 => ?_)
 ·
  refine RH.done krX ?_
  refine SG.cond_true rfl ?_
  refine SG.region ?_
  refine RL.val (Wanted.free rfl) (V.move rfl rfl) rfl ?_
  refine RL.val (Wanted.free rfl) (V.move rfl rfl) rfl ?_
  refine RL.val (Wanted.free rfl) (V.move rfl rfl) rfl ?_
  refine RL.val (Wanted.free rfl) (V.move rfl rfl) rfl ?_
  refine RL.val (Wanted.free rfl) (V.move rfl rfl) rfl ?_
  refine RL.val (Wanted.free rfl) (V.fieldAddr rfl rfl fo50_3) rfl ?_
  refine RL.val (Wanted.free rfl) (V.load rfl on3 rfl pickX rfl) rfl ?_
  refine RL.val (Wanted.free rfl) (V.nilCheck rfl rfl) rfl ?_
  refine RL.val (Wanted.free rfl) (V.fieldAddr rfl rfl fo94_0) rfl ?_
  refine RL.val (Wanted.free rfl) (V.fieldAddr rfl rfl fo26_2) rfl ?_
  refine RL.eff (Wanted.free rfl) (E.store1 rfl rfl rfl rfl rfl sz3 pickX rfl) rfl ?_
  rintro _ _ rfl
  refine RL.val (Wanted.free rfl) (V.nilCheck rfl rfl) rfl ?_
  refine RL.val (Wanted.free rfl) (V.fieldAddr rfl rfl fo94_0) rfl ?_
  refine RL.val (Wanted.free rfl) (V.fieldAddr rfl rfl fo26_3) rfl ?_
  refine RL.eff (Wanted.free rfl) (E.store1 rfl rfl rfl rfl rfl sz3 pickX rfl) rfl ?_
  rintro _ _ rfl
  refine RL.val (Wanted.free rfl) (V.nilCheck rfl rfl) rfl ?_
  refine RL.val (Wanted.free rfl) (V.fieldAddr rfl rfl fo94_0) rfl ?_
  refine RL.val (Wanted.free rfl) (V.fieldAddr rfl rfl fo26_4) rfl ?_
  refine RL.eff (Wanted.free rfl) (E.store1 rfl rfl rfl rfl rfl sz3 pickX rfl) rfl ?_
  rintro _ _ rfl
  refine RL.val (Wanted.free rfl) (V.nilCheck rfl rfl) rfl ?_
  refine RL.val (Wanted.free rfl) (V.fieldAddr rfl rfl fo94_0) rfl ?_
  refine RL.val (Wanted.free rfl) (V.fieldAddr rfl rfl fo26_7) rfl ?_
  refine RL.eff (Wanted.free rfl) (E.store1 rfl rfl rfl rfl rfl sz24 pickX rfl) rfl ?_
  rintro _ _ rfl
  refine RL.val (Wanted.free rfl) (V.nilCheck rfl rfl) rfl ?_
  refine RL.val (Wanted.free rfl) (V.fieldAddr rfl rfl fo94_0) rfl ?_
  refine RL.val (Wanted.free rfl) (V.fieldAddr rfl rfl fo26_8) rfl ?_
  refine RL.eff (Wanted.free rfl) (E.store1 rfl rfl rfl rfl rfl sz22 pickX rfl) rfl ?_
  rintro _ _ rfl
  refine RL.nil ?_
  refine SG.seq ?_
  refine SG.join (ι := Unit) (fun _ => [(3, ptr b3 0), (4, ptr b4 0), (6, ptr b9 0), (7, vB (decide (m.term < (Rp.raised p m).term)))]) (fun _ => Nd b9 (Rp.raised p m) [] :: Sl RSlot sa sn sc m.slots :: Blk b3 50 (mv m (.slice sa sn sc)) :: Blk b4 26 [.int .i64 0, .int .i64 0, .int .i64 0, .int .i64 0, .int .i64 0, .int .i64 0, .slice none 0 0, .slice none 0 0, .slice none 0 0] :: L) (fun _ => True) ?_ (fun rest => ?_)
  ·
   rintro _ _
   try dsimp only
   have hh : handle p m = Rp.store (Rp.raised p m) m := by rw [handle, if_neg (by unfold strange; omega), handleQ]; simp [hk]
   rw [hh]
   obtain ⟨hqi, hqn⟩ := raised_id p m
   obtain ⟨qn1, qn5, qi0, qi1, qt0, qt1, qll, qlv, qlm, qvn, qmn, qc0, qc1, qmm, qdd⟩ := raised_ok ho hmo
   generalize Rp.raised p m = q at *
   refine SG.seq ?_
   refine SG.seq ?_
   refine SG.region ?_
   refine RL.val (Wanted.free rfl) (V.fieldAddr rfl rfl fo50_0) rfl ?_
   refine RL.val (Wanted.free rfl) (V.load rfl on3 rfl pickX rfl) rfl ?_
   refine RL.nil ?_
   refine SG.block ?_
   refine SG.seq ?_
   refine SG.block ?_
   refine SG.block ?_
   refine SG.seq ?_
   refine SG.seq ?_
   refine SG.seq ?_
   refine SG.region ?_
   refine RL.cmpF (Wanted.free rfl) (V.bin rfl rfl rfl B.eql) rfl (by omega) ?_
   refine RL.val (Wanted.free rfl) (V.assign rfl rfl) rfl ?_
   refine RL.nil ?_
   refine SG.cond_false rfl ?_
   refine SG.skip ?_
   refine SG.seq ?_
   refine SG.region ?_
   refine RL.cmpF (Wanted.free rfl) (V.bin rfl rfl rfl B.eql) rfl (by omega) ?_
   refine RL.val (Wanted.free rfl) (V.assign rfl rfl) rfl ?_
   refine RL.nil ?_
   refine SG.cond_false rfl ?_
   refine SG.skip ?_
   refine SG.exit rfl ?_
   refine SG.seq ?_
   refine SG.ent (RMsg.mk (m := m) (a := sa) (n' := sn) (c := sc) memX) ?_
   refine SG.drawN 8 8 (Blk b3 50 (mv m (.slice sa sn sc)) :: L) wide rfl rfl (by repeat (first | exact Ent.refl _ | (apply Ent.cons; (· repeat (first | exact Pick.here | (refine Pick.sl ?_; (· repeat (first | exact List.Mem.head _ | assumption | apply List.Mem.tail))) | apply Pick.there))) | (refine Ent.trans (Ent.drop _ _) ?_))) ?_
   refine RH.val 0 rfl krX krX krX krX (Wanted.free rfl) (V.buildA (cs := [.func (.func 70) #[] #[], .func (.func 71) #[] #[], .func (.func 72) #[] #[], .func (.func 73) #[] #[]]) [(0, _), (1, _), (2, _), (3, _)] rfl ba101 (by exact ⟨rfl, ⟨_, rfl, rfl⟩, ⟨rfl, ⟨_, rfl, rfl⟩, ⟨rfl, ⟨_, rfl, rfl⟩, ⟨rfl, ⟨_, rfl, rfl⟩, trivial⟩⟩⟩⟩) rfl) rfl ?_
   refine RH.val 1 rfl krX krX krX krX (Wanted.free rfl) (V.fieldAddr rfl rfl fo50_0) rfl ?_
   refine RH.val 2 rfl krX krX krX krX (Wanted.free rfl) (V.load rfl on3 rfl pickX rfl) rfl ?_
   refine RH.val 3 rfl krX krX krX krX (Wanted.free rfl) (V.bin rfl rfl rfl (B.subI (by omega) (by omega))) rfl ?_
   refine RH.val 4 rfl krX krX krX krX (Wanted.free rfl) (V.indexA (j := 2) rfl ar101 (one_of krX) rfl rfl rfl (by omega) rfl) rfl ?_
   refine RH.val 5 rfl krX krX krX krX (Wanted.free rfl) (V.move rfl rfl) rfl ?_
   refine RH.val 6 rfl krX krX krX krX (Wanted.free rfl) (V.loadAgg (us := mv m (.slice sa sn sc)) rfl ag50 rfl pickX rfl rfl) rfl ?_
   refine RH.one (i := 7) krX ?_
   refine RHone.eff rfl (Wanted.free rfl) (E.callV rfl rfl go72 rfl (store_okw (p := q) (out := []) (us := mv m (.slice sa sn sc)) (m := m) pickX memX (by simp) qll qlv qlm hmo.x0 hmo.x1 hmo.s1)) rfl ?_
   rintro _ _ ⟨rfl, rfl⟩
   refine ⟨.inr entX, ?_⟩
   refine RH.done krX ?_
   refine SG.seq ?_
   refine SG.openNd (p := (Rp.store q m).1) pickX fun la ln lc va vn vc ma mn mc oa on oc => ?_
   refine SG.buf (T := RMsg) (a := oa) pickX fun hol _ _ => ?_
   subst hol
   refine SG.publish (T := RSlot) (a := la) pickX ?_
   refine SG.publish (T := RB) (a := va) pickX ?_
   refine SG.publish (T := RI) (a := ma) pickX ?_
   refine SG.ent (RPeer.mk (p := (Rp.store q m).1) memX memX memX) ?_
   refine SG.publish (T := RMsg) (a := oa) pickX ?_
   refine SG.drawP1 10 4 wide rfl rfl rfl pickX ?_
   refine RH.val 0 rfl krX krX krX krX (Wanted.free rfl) (V.move rfl rfl) rfl ?_
   refine RH.val 1 rfl krX krX krX krX (Wanted.free rfl) (V.nilCheck rfl rfl) rfl ?_
   refine RH.val 2 rfl krX krX krX krX (Wanted.free rfl) (V.fieldAddr rfl rfl fo94_0) rfl ?_
   refine RH.val 3 rfl krX krX krX krX (Wanted.free rfl) (V.loadAgg (us := pv (Rp.store q m).1 (.slice la ln lc) (.slice va vn vc) (.slice ma mn mc)) rfl ag26 rfl pickX rfl rfl) rfl ?_
   refine RH.val 4 rfl krX krX krX krX (Wanted.free rfl) (V.move rfl rfl) rfl ?_
   refine RH.val 5 rfl krX krX krX krX (Wanted.free rfl) (V.nilCheck rfl rfl) rfl ?_
   refine RH.val 6 rfl krX krX krX krX (Wanted.free rfl) (V.fieldAddr rfl rfl fo94_1) rfl ?_
   refine RH.val 7 rfl krX krX krX krX (Wanted.free rfl) (V.load rfl on35 rfl pickX rfl) rfl ?_
   refine RH.one (i := 8) krX ?_
   refine RHone.eff rfl (Wanted.free rfl) (E.storeWhole rfl rfl rfl (by rfl) sz26 pickX pv_one (by rfl)) rfl ?_
   rintro _ _ rfl
   refine ⟨.inr entX, ?_⟩
   refine RH.val 9 rfl krX krX krX krX (Wanted.free rfl) (V.assign rfl rfl) rfl ?_
   refine RH.done krX ?_
   refine SG.retE (Ret.r2 Try.func30 rfl (.agg rfl ag26 pickX rfl rfl) (.tmp rfl)) ?_ ⟨_, _, _, rfl, rfl⟩
   exact entX
  ·
   have hq := raised_yes (p := p) (m := m) (by omega)
   refine SG.ent (Ent.trans (Buf.nil (T := RB) (e := 4)) (Buf.nil (T := RI) (e := 3))) ?_
   refine SG.ent (?_ : Ent _ (Blk b9 94 (nv (down p m.term) (.slice la ln lc) (.slice none 0 0) (.slice none 0 0) (.slice oa on oc)) :: Buf RSlot 53 la ln lc p.log :: Buf RB 4 none 0 0 [] :: Buf RI 3 none 0 0 [] :: Buf RMsg 50 oa on oc [] :: Sl RSlot sa sn sc m.slots :: Blk b3 50 (mv m (.slice sa sn sc)) :: Blk b4 26 [.int .i64 0, .int .i64 0, .int .i64 0, .int .i64 0, .int .i64 0, .int .i64 0, .slice none 0 0, .slice none 0 0, .slice none 0 0] :: L)) ?_
   ·
    exact entX
   refine SG.drawL 9 9 wide rfl rfl ?_
   refine RH.val 0 rfl krX krX krX krX (Wanted.free rfl) (V.fieldAddr rfl rfl fo50_3) rfl ?_
   refine RH.val 1 rfl krX krX krX krX (Wanted.free rfl) (V.load rfl on3 rfl pickX rfl) rfl ?_
   refine RH.val 2 rfl krX krX krX krX (Wanted.free rfl) (V.move rfl rfl) rfl ?_
   refine RH.val 3 rfl krX krX krX krX (Wanted.free rfl) (V.nilCheck rfl rfl) rfl ?_
   refine RH.val 4 rfl krX krX krX krX (Wanted.free rfl) (V.fieldAddr rfl rfl fo94_0) rfl ?_
   refine RH.val 5 rfl krX krX krX krX (Wanted.free rfl) (V.fieldAddr rfl rfl fo26_2) rfl ?_
   refine RH.val 6 rfl krX krX krX krX (Wanted.free rfl) (V.load rfl on3 rfl pickX rfl) rfl ?_
   refine RH.cmp 7 rfl krX krX krX krX (Wanted.free rfl) (V.bin rfl rfl rfl B.lss) rfl (fun h95 => ?_) (fun h95 => ?_)
   ·
    refine RH.val 8 rfl krX krX krX krX (Wanted.free rfl) (V.assign rfl rfl) rfl ?_
    refine RH.done krX ?_
    refine SG.weaken (rest () trivial) ?_ ?_
    ·
     repeat (first | exact EnvLe.nil _ | refine EnvLe.cons (by first | rfl | (rw [hq]; first | exact congrArg (fun x => some (Value.bool x)) (decide_eq_true (by first | omega | assumption)).symm | exact congrArg (fun x => some (Value.bool x)) (decide_eq_false (by first | omega | assumption)).symm)) ?_)
    ·
     rw [hq]
     refine Nd.ent (la := la) (ln := ln) (lc := lc) (va := none) (vn := 0) (vc := 0) (ma := none) (mn := 0) (mc := 0) (oa := oa) (on := on) (oc := oc) ?_
     exact entX
   ·
    refine RH.val 8 rfl krX krX krX krX (Wanted.free rfl) (V.assign rfl rfl) rfl ?_
    refine RH.done krX ?_
    refine SG.weaken (rest () trivial) ?_ ?_
    ·
     repeat (first | exact EnvLe.nil _ | refine EnvLe.cons (by first | rfl | (rw [hq]; first | exact congrArg (fun x => some (Value.bool x)) (decide_eq_true (by first | omega | assumption)).symm | exact congrArg (fun x => some (Value.bool x)) (decide_eq_false (by first | omega | assumption)).symm)) ?_)
    ·
     rw [hq]
     refine Nd.ent (la := la) (ln := ln) (lc := lc) (va := none) (vn := 0) (vc := 0) (ma := none) (mn := 0) (mc := 0) (oa := oa) (on := on) (oc := oc) ?_
     exact entX
 ·
  refine RH.done krX ?_
  refine SG.cond_false rfl ?_
  refine SG.skip ?_
  refine SG.seq ?_
  refine SG.join (ι := Unit) (fun _ => [(3, ptr b3 0), (4, ptr b4 0), (6, ptr b9 0), (7, vB (decide (m.term < (Rp.raised p m).term)))]) (fun _ => Nd b9 (Rp.raised p m) [] :: Sl RSlot sa sn sc m.slots :: Blk b3 50 (mv m (.slice sa sn sc)) :: Blk b4 26 [.int .i64 0, .int .i64 0, .int .i64 0, .int .i64 0, .int .i64 0, .int .i64 0, .slice none 0 0, .slice none 0 0, .slice none 0 0] :: L) (fun _ => True) ?_ (fun rest => ?_)
  ·
   rintro _ _
   try dsimp only
   have hh : handle p m = Rp.store (Rp.raised p m) m := by rw [handle, if_neg (by unfold strange; omega), handleQ]; simp [hk]
   rw [hh]
   obtain ⟨hqi, hqn⟩ := raised_id p m
   obtain ⟨qn1, qn5, qi0, qi1, qt0, qt1, qll, qlv, qlm, qvn, qmn, qc0, qc1, qmm, qdd⟩ := raised_ok ho hmo
   generalize Rp.raised p m = q at *
   refine SG.seq ?_
   refine SG.seq ?_
   refine SG.region ?_
   refine RL.val (Wanted.free rfl) (V.fieldAddr rfl rfl fo50_0) rfl ?_
   refine RL.val (Wanted.free rfl) (V.load rfl on3 rfl pickX rfl) rfl ?_
   refine RL.nil ?_
   refine SG.block ?_
   refine SG.seq ?_
   refine SG.block ?_
   refine SG.block ?_
   refine SG.seq ?_
   refine SG.seq ?_
   refine SG.seq ?_
   refine SG.region ?_
   refine RL.cmpF (Wanted.free rfl) (V.bin rfl rfl rfl B.eql) rfl (by omega) ?_
   refine RL.val (Wanted.free rfl) (V.assign rfl rfl) rfl ?_
   refine RL.nil ?_
   refine SG.cond_false rfl ?_
   refine SG.skip ?_
   refine SG.seq ?_
   refine SG.region ?_
   refine RL.cmpF (Wanted.free rfl) (V.bin rfl rfl rfl B.eql) rfl (by omega) ?_
   refine RL.val (Wanted.free rfl) (V.assign rfl rfl) rfl ?_
   refine RL.nil ?_
   refine SG.cond_false rfl ?_
   refine SG.skip ?_
   refine SG.exit rfl ?_
   refine SG.seq ?_
   refine SG.ent (RMsg.mk (m := m) (a := sa) (n' := sn) (c := sc) memX) ?_
   refine SG.drawN 8 8 (Blk b3 50 (mv m (.slice sa sn sc)) :: L) wide rfl rfl (by repeat (first | exact Ent.refl _ | (apply Ent.cons; (· repeat (first | exact Pick.here | (refine Pick.sl ?_; (· repeat (first | exact List.Mem.head _ | assumption | apply List.Mem.tail))) | apply Pick.there))) | (refine Ent.trans (Ent.drop _ _) ?_))) ?_
   refine RH.val 0 rfl krX krX krX krX (Wanted.free rfl) (V.buildA (cs := [.func (.func 70) #[] #[], .func (.func 71) #[] #[], .func (.func 72) #[] #[], .func (.func 73) #[] #[]]) [(0, _), (1, _), (2, _), (3, _)] rfl ba101 (by exact ⟨rfl, ⟨_, rfl, rfl⟩, ⟨rfl, ⟨_, rfl, rfl⟩, ⟨rfl, ⟨_, rfl, rfl⟩, ⟨rfl, ⟨_, rfl, rfl⟩, trivial⟩⟩⟩⟩) rfl) rfl ?_
   refine RH.val 1 rfl krX krX krX krX (Wanted.free rfl) (V.fieldAddr rfl rfl fo50_0) rfl ?_
   refine RH.val 2 rfl krX krX krX krX (Wanted.free rfl) (V.load rfl on3 rfl pickX rfl) rfl ?_
   refine RH.val 3 rfl krX krX krX krX (Wanted.free rfl) (V.bin rfl rfl rfl (B.subI (by omega) (by omega))) rfl ?_
   refine RH.val 4 rfl krX krX krX krX (Wanted.free rfl) (V.indexA (j := 2) rfl ar101 (one_of krX) rfl rfl rfl (by omega) rfl) rfl ?_
   refine RH.val 5 rfl krX krX krX krX (Wanted.free rfl) (V.move rfl rfl) rfl ?_
   refine RH.val 6 rfl krX krX krX krX (Wanted.free rfl) (V.loadAgg (us := mv m (.slice sa sn sc)) rfl ag50 rfl pickX rfl rfl) rfl ?_
   refine RH.one (i := 7) krX ?_
   refine RHone.eff rfl (Wanted.free rfl) (E.callV rfl rfl go72 rfl (store_okw (p := q) (out := []) (us := mv m (.slice sa sn sc)) (m := m) pickX memX (by simp) qll qlv qlm hmo.x0 hmo.x1 hmo.s1)) rfl ?_
   rintro _ _ ⟨rfl, rfl⟩
   refine ⟨.inr entX, ?_⟩
   refine RH.done krX ?_
   refine SG.seq ?_
   refine SG.openNd (p := (Rp.store q m).1) pickX fun la ln lc va vn vc ma mn mc oa on oc => ?_
   refine SG.buf (T := RMsg) (a := oa) pickX fun hol _ _ => ?_
   subst hol
   refine SG.publish (T := RSlot) (a := la) pickX ?_
   refine SG.publish (T := RB) (a := va) pickX ?_
   refine SG.publish (T := RI) (a := ma) pickX ?_
   refine SG.ent (RPeer.mk (p := (Rp.store q m).1) memX memX memX) ?_
   refine SG.publish (T := RMsg) (a := oa) pickX ?_
   refine SG.drawP1 10 4 wide rfl rfl rfl pickX ?_
   refine RH.val 0 rfl krX krX krX krX (Wanted.free rfl) (V.move rfl rfl) rfl ?_
   refine RH.val 1 rfl krX krX krX krX (Wanted.free rfl) (V.nilCheck rfl rfl) rfl ?_
   refine RH.val 2 rfl krX krX krX krX (Wanted.free rfl) (V.fieldAddr rfl rfl fo94_0) rfl ?_
   refine RH.val 3 rfl krX krX krX krX (Wanted.free rfl) (V.loadAgg (us := pv (Rp.store q m).1 (.slice la ln lc) (.slice va vn vc) (.slice ma mn mc)) rfl ag26 rfl pickX rfl rfl) rfl ?_
   refine RH.val 4 rfl krX krX krX krX (Wanted.free rfl) (V.move rfl rfl) rfl ?_
   refine RH.val 5 rfl krX krX krX krX (Wanted.free rfl) (V.nilCheck rfl rfl) rfl ?_
   refine RH.val 6 rfl krX krX krX krX (Wanted.free rfl) (V.fieldAddr rfl rfl fo94_1) rfl ?_
   refine RH.val 7 rfl krX krX krX krX (Wanted.free rfl) (V.load rfl on35 rfl pickX rfl) rfl ?_
   refine RH.one (i := 8) krX ?_
   refine RHone.eff rfl (Wanted.free rfl) (E.storeWhole rfl rfl rfl (by rfl) sz26 pickX pv_one (by rfl)) rfl ?_
   rintro _ _ rfl
   refine ⟨.inr entX, ?_⟩
   refine RH.val 9 rfl krX krX krX krX (Wanted.free rfl) (V.assign rfl rfl) rfl ?_
   refine RH.done krX ?_
   refine SG.retE (Ret.r2 Try.func30 rfl (.agg rfl ag26 pickX rfl rfl) (.tmp rfl)) ?_ ⟨_, _, _, rfl, rfl⟩
   exact entX
  ·
   have hq := raised_no (p := p) (m := m) (by omega)
   refine SG.drawL 9 9 wide rfl rfl ?_
   refine RH.val 0 rfl krX krX krX krX (Wanted.free rfl) (V.fieldAddr rfl rfl fo50_3) rfl ?_
   refine RH.val 1 rfl krX krX krX krX (Wanted.free rfl) (V.load rfl on3 rfl pickX rfl) rfl ?_
   refine RH.val 2 rfl krX krX krX krX (Wanted.free rfl) (V.move rfl rfl) rfl ?_
   refine RH.val 3 rfl krX krX krX krX (Wanted.free rfl) (V.nilCheck rfl rfl) rfl ?_
   refine RH.val 4 rfl krX krX krX krX (Wanted.free rfl) (V.fieldAddr rfl rfl fo94_0) rfl ?_
   refine RH.val 5 rfl krX krX krX krX (Wanted.free rfl) (V.fieldAddr rfl rfl fo26_2) rfl ?_
   refine RH.val 6 rfl krX krX krX krX (Wanted.free rfl) (V.load rfl on3 rfl pickX rfl) rfl ?_
   refine RH.cmp 7 rfl krX krX krX krX (Wanted.free rfl) (V.bin rfl rfl rfl B.lss) rfl (fun h127 => ?_) (fun h127 => ?_)
   ·
    refine RH.val 8 rfl krX krX krX krX (Wanted.free rfl) (V.assign rfl rfl) rfl ?_
    refine RH.done krX ?_
    refine SG.weaken (rest () trivial) ?_ ?_
    ·
     repeat (first | exact EnvLe.nil _ | refine EnvLe.cons (by first | rfl | (rw [hq]; first | exact congrArg (fun x => some (Value.bool x)) (decide_eq_true (by first | omega | assumption)).symm | exact congrArg (fun x => some (Value.bool x)) (decide_eq_false (by first | omega | assumption)).symm)) ?_)
    ·
     rw [hq]
     refine Nd.ent (la := la) (ln := ln) (lc := lc) (va := va) (vn := vn) (vc := vc) (ma := ma) (mn := mn) (mc := mc) (oa := oa) (on := on) (oc := oc) ?_
     exact entX
   ·
    refine RH.val 8 rfl krX krX krX krX (Wanted.free rfl) (V.assign rfl rfl) rfl ?_
    refine RH.done krX ?_
    refine SG.weaken (rest () trivial) ?_ ?_
    ·
     repeat (first | exact EnvLe.nil _ | refine EnvLe.cons (by first | rfl | (rw [hq]; first | exact congrArg (fun x => some (Value.bool x)) (decide_eq_true (by first | omega | assumption)).symm | exact congrArg (fun x => some (Value.bool x)) (decide_eq_false (by first | omega | assumption)).symm)) ?_)
    ·
     rw [hq]
     refine Nd.ent (la := la) (ln := ln) (lc := lc) (va := va) (vn := vn) (vc := vc) (ma := ma) (mn := mn) (mc := mc) (oa := oa) (on := on) (oc := oc) ?_
     exact entX

set_option maxRecDepth 100000 in
set_option maxHeartbeats 1000000 in
theorem handle_k4 {κ : World} {L : List Assn} {us ms : List Value} {p : Peer} {m : Msg} (hm : Rd RPeer us p ∈ L) (hmm : Rd RMsg ms m ∈ L) (ho : POk p) (hmo : MOk m) (hk : m.kind = 4) (h1 : m.to = p.id) (hf0 : 0 ≤ m.frm) (hf1 : m.frm < p.nodes) (hf2 : m.frm ≠ p.id) :
    Ctr Try.prog 30 #[.agg us.toArray, .agg ms.toArray] κ L (fun v M => ∃ us' a c, v = .tuple #[.agg us'.toArray, .slice a (handle p m).2.length c] ∧ M = Rd RPeer us' (handle p m).1 :: Sl RMsg a (handle p m).2.length c (handle p m).2 :: L) := by
 refine Ctr.enter (vs := [.agg us.toArray, .agg ms.toArray]) (m := 118) Try.func30 rfl rfl rfl ?_
 refine SG.openPeer (Pick.rd hm) fun ka kn kc wa wn wc xa xn xc hus => ?_
 subst hus
 refine SG.openMsg (Pick.rd (show Rd RMsg ms m ∈ _ from memX)) fun sa sn sc hms => ?_
 subst hms
 obtain ⟨n1, n5, i0, i1, t0, t1, ll, lv, lm, vn, mn, c0, c1, mm, dd⟩ := id ho
 have hm0 := hmo.t0
 have hm1 := hmo.t1
 refine SG.seq ?_
 refine SG.region ?_
 refine RL.eff (Wanted.free rfl) (E.box _ rfl rfl rfl) rfl ?_
 rintro _ _ ⟨b2, rfl, rfl⟩
 refine RL.eff (Wanted.free rfl) (E.box _ rfl rfl rfl) rfl ?_
 rintro _ _ ⟨b3, rfl, rfl⟩
 refine RL.eff (Wanted.free rfl) (E.alloc rfl ze26) rfl ?_
 rintro _ _ ⟨b4, rfl, rfl⟩
 refine RL.val (Wanted.free rfl) (V.assign rfl rfl) rfl ?_
 refine RL.nil ?_
 refine SG.seq ?_
 refine SG.region ?_
 refine RL.val (Wanted.free rfl) (V.loadAgg (us := pv p (.slice ka kn kc) (.slice wa wn wc) (.slice xa xn xc)) rfl ag26 rfl pickX rfl rfl) rfl ?_
 refine RL.eff (Wanted.free rfl) (E.call rfl go57 rfl (copied_ok (us := pv p (.slice ka kn kc) (.slice wa wn wc) (.slice xa xn xc)) (p := p) memX (by omega) (by omega) (by omega))) rfl ?_
 rintro _ _ ⟨b9, rfl, rfl⟩
 refine RL.val (Wanted.free rfl) (V.assign rfl rfl) rfl ?_
 refine RL.nil ?_
 refine SG.seq ?_
 refine SG.seq ?_
 refine SG.region ?_
 refine RL.val (Wanted.free rfl) (V.fieldAddr rfl rfl fo50_2) rfl ?_
 refine RL.val (Wanted.free rfl) (V.load rfl on3 rfl pickX rfl) rfl ?_
 refine RL.val (Wanted.free rfl) (V.fieldAddr rfl rfl fo26_0) rfl ?_
 refine RL.val (Wanted.free rfl) (V.load rfl on3 rfl pickX rfl) rfl ?_
 refine RL.cmpF (Wanted.free rfl) (V.bin rfl rfl rfl B.neq) rfl (by omega) ?_
 refine RL.val (Wanted.free rfl) (V.move rfl rfl) rfl ?_
 refine RL.val (Wanted.yes rfl rfl rfl rfl) (V.fieldAddr rfl rfl fo50_1) rfl ?_
 refine RL.val (Wanted.yes rfl rfl rfl rfl) (V.load rfl on3 rfl pickX rfl) rfl ?_
 refine RL.cmpF (Wanted.yes rfl rfl rfl rfl) (V.bin rfl rfl rfl B.lss) rfl (by omega) ?_
 refine RL.val (Wanted.free rfl) (V.pick_false rfl rfl rfl) rfl ?_
 refine RL.val (Wanted.free rfl) (V.move rfl rfl) rfl ?_
 refine RL.val (Wanted.yes rfl rfl rfl rfl) (V.fieldAddr rfl rfl fo50_1) rfl ?_
 refine RL.val (Wanted.yes rfl rfl rfl rfl) (V.load rfl on3 rfl pickX rfl) rfl ?_
 refine RL.val (Wanted.yes rfl rfl rfl rfl) (V.fieldAddr rfl rfl fo26_1) rfl ?_
 refine RL.val (Wanted.yes rfl rfl rfl rfl) (V.load rfl on3 rfl pickX rfl) rfl ?_
 refine RL.cmpF (Wanted.yes rfl rfl rfl rfl) (V.bin rfl rfl rfl B.geq) rfl (by omega) ?_
 refine RL.val (Wanted.free rfl) (V.pick_false rfl rfl rfl) rfl ?_
 refine RL.val (Wanted.free rfl) (V.move rfl rfl) rfl ?_
 refine RL.val (Wanted.yes rfl rfl rfl rfl) (V.fieldAddr rfl rfl fo50_1) rfl ?_
 refine RL.val (Wanted.yes rfl rfl rfl rfl) (V.load rfl on3 rfl pickX rfl) rfl ?_
 refine RL.val (Wanted.yes rfl rfl rfl rfl) (V.fieldAddr rfl rfl fo26_0) rfl ?_
 refine RL.val (Wanted.yes rfl rfl rfl rfl) (V.load rfl on3 rfl pickX rfl) rfl ?_
 refine RL.cmpF (Wanted.yes rfl rfl rfl rfl) (V.bin rfl rfl rfl B.eql) rfl (by omega) ?_
 refine RL.val (Wanted.free rfl) (V.pick_false rfl rfl rfl) rfl ?_
 refine RL.val (Wanted.free rfl) (V.move rfl rfl) rfl ?_
 refine RL.val (Wanted.yes rfl rfl rfl rfl) (V.fieldAddr rfl rfl fo50_0) rfl ?_
 refine RL.val (Wanted.yes rfl rfl rfl rfl) (V.load rfl on3 rfl pickX rfl) rfl ?_
 refine RL.cmpF (Wanted.yes rfl rfl rfl rfl) (V.bin rfl rfl rfl B.lss) rfl (by omega) ?_
 refine RL.val (Wanted.free rfl) (V.pick_false rfl rfl rfl) rfl ?_
 refine RL.val (Wanted.free rfl) (V.move rfl rfl) rfl ?_
 refine RL.val (Wanted.yes rfl rfl rfl rfl) (V.fieldAddr rfl rfl fo50_0) rfl ?_
 refine RL.val (Wanted.yes rfl rfl rfl rfl) (V.load rfl on3 rfl pickX rfl) rfl ?_
 refine RL.cmpF (Wanted.yes rfl rfl rfl rfl) (V.bin rfl rfl rfl B.gtr) rfl (by omega) ?_
 refine RL.val (Wanted.free rfl) (V.pick_false rfl rfl rfl) rfl ?_
 refine RL.nil ?_
 refine SG.cond_false rfl ?_
 refine SG.skip ?_
 refine SG.seq ?_
 refine SG.seq ?_
 refine SG.openNd Pick.here fun la ln lc va vn vc ma mn mc oa on oc => ?_
 refine SG.drawL 8 8 wide rfl rfl ?_
 refine RH.val 0 rfl krX krX krX krX (Wanted.free rfl) (V.fieldAddr rfl rfl fo50_3) rfl ?_
 refine RH.val 1 rfl krX krX krX krX (Wanted.free rfl) (V.load rfl on3 rfl pickX rfl) rfl ?_
 refine RH.val 2 rfl krX krX krX krX (Wanted.free rfl) (V.move rfl rfl) rfl ?_
 refine RH.val 3 rfl krX krX krX krX (Wanted.free rfl) (V.nilCheck rfl rfl) rfl ?_
 refine RH.val 4 rfl krX krX krX krX (Wanted.free rfl) (V.fieldAddr rfl rfl fo94_0) rfl ?_
 refine RH.val 5 rfl krX krX krX krX (Wanted.free rfl) (V.fieldAddr rfl rfl fo26_2) rfl ?_
 refine RH.val 6 rfl krX krX krX krX (Wanted.free rfl) (V.load rfl on3 rfl pickX rfl) rfl ?_
 refine RH.cmp 7 rfl krX krX krX krX (Wanted.free rfl) (V.bin rfl rfl rfl B.gtr) rfl (fun h38 => ?_) (fun h38 => ?_)
 ·
  refine RH.done krX ?_
  refine SG.cond_true rfl ?_
  refine SG.region ?_
  refine RL.val (Wanted.free rfl) (V.move rfl rfl) rfl ?_
  refine RL.val (Wanted.free rfl) (V.move rfl rfl) rfl ?_
  refine RL.val (Wanted.free rfl) (V.move rfl rfl) rfl ?_
  refine RL.val (Wanted.free rfl) (V.move rfl rfl) rfl ?_
  refine RL.val (Wanted.free rfl) (V.move rfl rfl) rfl ?_
  refine RL.val (Wanted.free rfl) (V.fieldAddr rfl rfl fo50_3) rfl ?_
  refine RL.val (Wanted.free rfl) (V.load rfl on3 rfl pickX rfl) rfl ?_
  refine RL.val (Wanted.free rfl) (V.nilCheck rfl rfl) rfl ?_
  refine RL.val (Wanted.free rfl) (V.fieldAddr rfl rfl fo94_0) rfl ?_
  refine RL.val (Wanted.free rfl) (V.fieldAddr rfl rfl fo26_2) rfl ?_
  refine RL.eff (Wanted.free rfl) (E.store1 rfl rfl rfl rfl rfl sz3 pickX rfl) rfl ?_
  rintro _ _ rfl
  refine RL.val (Wanted.free rfl) (V.nilCheck rfl rfl) rfl ?_
  refine RL.val (Wanted.free rfl) (V.fieldAddr rfl rfl fo94_0) rfl ?_
  refine RL.val (Wanted.free rfl) (V.fieldAddr rfl rfl fo26_3) rfl ?_
  refine RL.eff (Wanted.free rfl) (E.store1 rfl rfl rfl rfl rfl sz3 pickX rfl) rfl ?_
  rintro _ _ rfl
  refine RL.val (Wanted.free rfl) (V.nilCheck rfl rfl) rfl ?_
  refine RL.val (Wanted.free rfl) (V.fieldAddr rfl rfl fo94_0) rfl ?_
  refine RL.val (Wanted.free rfl) (V.fieldAddr rfl rfl fo26_4) rfl ?_
  refine RL.eff (Wanted.free rfl) (E.store1 rfl rfl rfl rfl rfl sz3 pickX rfl) rfl ?_
  rintro _ _ rfl
  refine RL.val (Wanted.free rfl) (V.nilCheck rfl rfl) rfl ?_
  refine RL.val (Wanted.free rfl) (V.fieldAddr rfl rfl fo94_0) rfl ?_
  refine RL.val (Wanted.free rfl) (V.fieldAddr rfl rfl fo26_7) rfl ?_
  refine RL.eff (Wanted.free rfl) (E.store1 rfl rfl rfl rfl rfl sz24 pickX rfl) rfl ?_
  rintro _ _ rfl
  refine RL.val (Wanted.free rfl) (V.nilCheck rfl rfl) rfl ?_
  refine RL.val (Wanted.free rfl) (V.fieldAddr rfl rfl fo94_0) rfl ?_
  refine RL.val (Wanted.free rfl) (V.fieldAddr rfl rfl fo26_8) rfl ?_
  refine RL.eff (Wanted.free rfl) (E.store1 rfl rfl rfl rfl rfl sz22 pickX rfl) rfl ?_
  rintro _ _ rfl
  refine RL.nil ?_
  refine SG.seq ?_
  refine SG.join (ι := Unit) (fun _ => [(3, ptr b3 0), (4, ptr b4 0), (6, ptr b9 0), (7, vB (decide (m.term < (Rp.raised p m).term)))]) (fun _ => Nd b9 (Rp.raised p m) [] :: Sl RSlot sa sn sc m.slots :: Blk b3 50 (mv m (.slice sa sn sc)) :: Blk b4 26 [.int .i64 0, .int .i64 0, .int .i64 0, .int .i64 0, .int .i64 0, .int .i64 0, .slice none 0 0, .slice none 0 0, .slice none 0 0] :: L) (fun _ => True) ?_ (fun rest => ?_)
  ·
   rintro _ _
   try dsimp only
   have hh : handle p m = (if m.term < (Rp.raised p m).term ∨ m.yes = false then (Rp.raised p m) else storedP (Rp.raised p m) m, []) := by rw [handle, if_neg (by unfold strange; omega), handleQ]; simp [hk]
   rw [hh]
   obtain ⟨hqi, hqn⟩ := raised_id p m
   obtain ⟨qn1, qn5, qi0, qi1, qt0, qt1, qll, qlv, qlm, qvn, qmn, qc0, qc1, qmm, qdd⟩ := raised_ok ho hmo
   generalize Rp.raised p m = q at *
   refine SG.seq ?_
   refine SG.seq ?_
   refine SG.region ?_
   refine RL.val (Wanted.free rfl) (V.fieldAddr rfl rfl fo50_0) rfl ?_
   refine RL.val (Wanted.free rfl) (V.load rfl on3 rfl pickX rfl) rfl ?_
   refine RL.nil ?_
   refine SG.block ?_
   refine SG.seq ?_
   refine SG.block ?_
   refine SG.block ?_
   refine SG.seq ?_
   refine SG.seq ?_
   refine SG.seq ?_
   refine SG.region ?_
   refine RL.cmpT (Wanted.free rfl) (V.bin rfl rfl rfl B.eql) rfl (by omega) ?_
   refine RL.val (Wanted.free rfl) (V.assign rfl rfl) rfl ?_
   refine RL.nil ?_
   refine SG.cond_true rfl ?_
   refine SG.exit rfl ?_
   refine SG.inBlock ?_
   refine SG.seq ?_
   refine SG.seq ?_
   refine SG.region ?_
   refine RL.val (Wanted.free rfl) (V.move rfl rfl) rfl ?_
   refine RL.val (Wanted.free rfl) (V.move rfl rfl) rfl ?_
   refine RL.split 93 rfl (fun g71 => ?_) (fun g71 => ?_)
   ·
    refine RL.skip (Wanted.no rfl rfl rfl rfl rfl) rfl ?_
    refine RL.skip (Wanted.no rfl rfl rfl rfl rfl) rfl ?_
    refine RL.skip (Wanted.no rfl rfl rfl rfl rfl) rfl ?_
    refine RL.val (Wanted.free rfl) (V.pick_true rfl rfl rfl) rfl ?_
    refine RL.nil ?_
    refine SG.cond_true rfl ?_
    refine SG.seq ?_
    have hlate : m.term < q.term ∨ m.yes = false := by first | exact .inl (of_decide_eq_true (by assumption)) | exact .inr hyf
    rw [if_pos hlate]
    refine SG.openNd Pick.here fun la ln lc va vn vc ma mn mc oa on oc => ?_
    refine SG.publish (T := RSlot) (a := la) pickX ?_
    refine SG.publish (T := RB) (a := va) pickX ?_
    refine SG.publish (T := RI) (a := ma) pickX ?_
    refine SG.ent (RPeer.mk (p := q) memX memX memX) ?_
    refine SG.ent (Sl.nil (T := RMsg)) ?_
    refine SG.region ?_
    refine RL.val (Wanted.free rfl) (V.move rfl rfl) rfl ?_
    refine RL.val (Wanted.free rfl) (V.nilCheck rfl rfl) rfl ?_
    refine RL.val (Wanted.free rfl) (V.fieldAddr rfl rfl fo94_0) rfl ?_
    refine RL.val (Wanted.free rfl) (V.loadAgg (us := pv q (.slice la ln lc) (.slice va vn vc) (.slice ma mn mc)) rfl ag26 rfl pickX rfl rfl) rfl ?_
    refine RL.eff (Wanted.free rfl) (E.storeWhole rfl rfl rfl (by rfl) sz26 pickX pv_one (by rfl)) rfl ?_
    rintro _ _ rfl
    refine RL.val (Wanted.free rfl) (V.assign rfl rfl) rfl ?_
    refine RL.nil ?_
    refine SG.retE (Ret.r2 Try.func30 rfl (.agg rfl ag26 pickX rfl rfl) (.tmp rfl)) ?_ ⟨_, _, _, rfl, rfl⟩
    exact entX
   ·
    refine RL.val (Wanted.yes rfl rfl rfl rfl) (V.fieldAddr rfl rfl fo50_8) rfl ?_
    refine RL.val (Wanted.yes rfl rfl rfl rfl) (V.load rfl on4 rfl pickX rfl) rfl ?_
    refine RL.val (Wanted.yes rfl rfl rfl rfl) (V.not rfl rfl) rfl ?_
    refine RL.val (Wanted.free rfl) (V.pick_false rfl rfl rfl) rfl ?_
    refine RL.nil ?_
    refine SG.cond rfl (fun h80 => ?_) (fun h80 => ?_)
    ·
     have hyf : m.yes = false := by simpa using h80
     refine SG.seq ?_
     have hlate : m.term < q.term ∨ m.yes = false := by first | exact .inl (of_decide_eq_true (by assumption)) | exact .inr hyf
     rw [if_pos hlate]
     refine SG.openNd Pick.here fun la ln lc va vn vc ma mn mc oa on oc => ?_
     refine SG.publish (T := RSlot) (a := la) pickX ?_
     refine SG.publish (T := RB) (a := va) pickX ?_
     refine SG.publish (T := RI) (a := ma) pickX ?_
     refine SG.ent (RPeer.mk (p := q) memX memX memX) ?_
     refine SG.ent (Sl.nil (T := RMsg)) ?_
     refine SG.region ?_
     refine RL.val (Wanted.free rfl) (V.move rfl rfl) rfl ?_
     refine RL.val (Wanted.free rfl) (V.nilCheck rfl rfl) rfl ?_
     refine RL.val (Wanted.free rfl) (V.fieldAddr rfl rfl fo94_0) rfl ?_
     refine RL.val (Wanted.free rfl) (V.loadAgg (us := pv q (.slice la ln lc) (.slice va vn vc) (.slice ma mn mc)) rfl ag26 rfl pickX rfl rfl) rfl ?_
     refine RL.eff (Wanted.free rfl) (E.storeWhole rfl rfl rfl (by rfl) sz26 pickX pv_one (by rfl)) rfl ?_
     rintro _ _ rfl
     refine RL.val (Wanted.free rfl) (V.assign rfl rfl) rfl ?_
     refine RL.nil ?_
     refine SG.retE (Ret.r2 Try.func30 rfl (.agg rfl ag26 pickX rfl rfl) (.tmp rfl)) ?_ ⟨_, _, _, rfl, rfl⟩
     exact entX
    ·
     have hyt : m.yes = true := by simpa using h80
     refine SG.skip ?_
     refine SG.exit rfl ?_
     refine SG.seq ?_
     have hlate : ¬ (m.term < q.term ∨ m.yes = false) := by
      rintro (h | h)
      ·
       exact absurd h (of_decide_eq_false (by assumption))
      ·
       rw [hyt] at h; cases h
     rw [if_neg hlate]
     refine SG.ent (RMsg.mk (m := m) (a := sa) (n' := sn) (c := sc) memX) ?_
     refine SG.drawN 8 8 (Blk b3 50 (mv m (.slice sa sn sc)) :: L) wide rfl rfl (by repeat (first | exact Ent.refl _ | (apply Ent.cons; (· repeat (first | exact Pick.here | (refine Pick.sl ?_; (· repeat (first | exact List.Mem.head _ | assumption | apply List.Mem.tail))) | apply Pick.there))) | (refine Ent.trans (Ent.drop _ _) ?_))) ?_
     refine RH.val 0 rfl krX krX krX krX (Wanted.free rfl) (V.buildA (cs := [.func (.func 70) #[] #[], .func (.func 71) #[] #[], .func (.func 72) #[] #[], .func (.func 73) #[] #[]]) [(0, _), (1, _), (2, _), (3, _)] rfl ba101 (by exact ⟨rfl, ⟨_, rfl, rfl⟩, ⟨rfl, ⟨_, rfl, rfl⟩, ⟨rfl, ⟨_, rfl, rfl⟩, ⟨rfl, ⟨_, rfl, rfl⟩, trivial⟩⟩⟩⟩) rfl) rfl ?_
     refine RH.val 1 rfl krX krX krX krX (Wanted.free rfl) (V.fieldAddr rfl rfl fo50_0) rfl ?_
     refine RH.val 2 rfl krX krX krX krX (Wanted.free rfl) (V.load rfl on3 rfl pickX rfl) rfl ?_
     refine RH.val 3 rfl krX krX krX krX (Wanted.free rfl) (V.bin rfl rfl rfl (B.subI (by omega) (by omega))) rfl ?_
     refine RH.val 4 rfl krX krX krX krX (Wanted.free rfl) (V.indexA (j := 3) rfl ar101 (one_of krX) rfl rfl rfl (by omega) rfl) rfl ?_
     refine RH.val 5 rfl krX krX krX krX (Wanted.free rfl) (V.move rfl rfl) rfl ?_
     refine RH.val 6 rfl krX krX krX krX (Wanted.free rfl) (V.loadAgg (us := mv m (.slice sa sn sc)) rfl ag50 rfl pickX rfl rfl) rfl ?_
     refine RH.one (i := 7) krX ?_
     refine RHone.eff rfl (Wanted.free rfl) (E.callV rfl rfl go73 rfl (stored_okw (p := q) (out := []) (us := mv m (.slice sa sn sc)) (m := m) pickX memX (by simp) qll qlv qlm qn1 qn5 qi0 qi1 qt0 qt1 qmn hf0 (by omega) (by have := hmo.x0; have := hmo.x1; unfold inInt; omega) qc0)) rfl ?_
     rintro _ _ ⟨rfl, rfl⟩
     refine ⟨.inr entX, ?_⟩
     refine RH.done krX ?_
     refine SG.seq ?_
     refine SG.openNd (p := (storedP q m)) pickX fun la ln lc va vn vc ma mn mc oa on oc => ?_
     refine SG.buf (T := RMsg) (a := oa) pickX fun hol _ _ => ?_
     subst hol
     refine SG.publish (T := RSlot) (a := la) pickX ?_
     refine SG.publish (T := RB) (a := va) pickX ?_
     refine SG.publish (T := RI) (a := ma) pickX ?_
     refine SG.ent (RPeer.mk (p := (storedP q m)) memX memX memX) ?_
     refine SG.publish (T := RMsg) (a := oa) pickX ?_
     refine SG.drawP1 10 4 wide rfl rfl rfl pickX ?_
     refine RH.val 0 rfl krX krX krX krX (Wanted.free rfl) (V.move rfl rfl) rfl ?_
     refine RH.val 1 rfl krX krX krX krX (Wanted.free rfl) (V.nilCheck rfl rfl) rfl ?_
     refine RH.val 2 rfl krX krX krX krX (Wanted.free rfl) (V.fieldAddr rfl rfl fo94_0) rfl ?_
     refine RH.val 3 rfl krX krX krX krX (Wanted.free rfl) (V.loadAgg (us := pv (storedP q m) (.slice la ln lc) (.slice va vn vc) (.slice ma mn mc)) rfl ag26 rfl pickX rfl rfl) rfl ?_
     refine RH.val 4 rfl krX krX krX krX (Wanted.free rfl) (V.move rfl rfl) rfl ?_
     refine RH.val 5 rfl krX krX krX krX (Wanted.free rfl) (V.nilCheck rfl rfl) rfl ?_
     refine RH.val 6 rfl krX krX krX krX (Wanted.free rfl) (V.fieldAddr rfl rfl fo94_1) rfl ?_
     refine RH.val 7 rfl krX krX krX krX (Wanted.free rfl) (V.load rfl on35 rfl pickX rfl) rfl ?_
     refine RH.one (i := 8) krX ?_
     refine RHone.eff rfl (Wanted.free rfl) (E.storeWhole rfl rfl rfl (by rfl) sz26 pickX pv_one (by rfl)) rfl ?_
     rintro _ _ rfl
     refine ⟨.inr entX, ?_⟩
     refine RH.val 9 rfl krX krX krX krX (Wanted.free rfl) (V.assign rfl rfl) rfl ?_
     refine RH.done krX ?_
     refine SG.retE (Ret.r2 Try.func30 rfl (.agg rfl ag26 pickX rfl rfl) (.tmp rfl)) ?_ ⟨_, _, _, rfl, rfl⟩
     exact entX
  ·
   have hq := raised_yes (p := p) (m := m) (by omega)
   refine SG.ent (Ent.trans (Buf.nil (T := RB) (e := 4)) (Buf.nil (T := RI) (e := 3))) ?_
   refine SG.ent (?_ : Ent _ (Blk b9 94 (nv (down p m.term) (.slice la ln lc) (.slice none 0 0) (.slice none 0 0) (.slice oa on oc)) :: Buf RSlot 53 la ln lc p.log :: Buf RB 4 none 0 0 [] :: Buf RI 3 none 0 0 [] :: Buf RMsg 50 oa on oc [] :: Sl RSlot sa sn sc m.slots :: Blk b3 50 (mv m (.slice sa sn sc)) :: Blk b4 26 [.int .i64 0, .int .i64 0, .int .i64 0, .int .i64 0, .int .i64 0, .int .i64 0, .slice none 0 0, .slice none 0 0, .slice none 0 0] :: L)) ?_
   ·
    exact entX
   refine SG.drawL 9 9 wide rfl rfl ?_
   refine RH.val 0 rfl krX krX krX krX (Wanted.free rfl) (V.fieldAddr rfl rfl fo50_3) rfl ?_
   refine RH.val 1 rfl krX krX krX krX (Wanted.free rfl) (V.load rfl on3 rfl pickX rfl) rfl ?_
   refine RH.val 2 rfl krX krX krX krX (Wanted.free rfl) (V.move rfl rfl) rfl ?_
   refine RH.val 3 rfl krX krX krX krX (Wanted.free rfl) (V.nilCheck rfl rfl) rfl ?_
   refine RH.val 4 rfl krX krX krX krX (Wanted.free rfl) (V.fieldAddr rfl rfl fo94_0) rfl ?_
   refine RH.val 5 rfl krX krX krX krX (Wanted.free rfl) (V.fieldAddr rfl rfl fo26_2) rfl ?_
   refine RH.val 6 rfl krX krX krX krX (Wanted.free rfl) (V.load rfl on3 rfl pickX rfl) rfl ?_
   refine RH.cmp 7 rfl krX krX krX krX (Wanted.free rfl) (V.bin rfl rfl rfl B.lss) rfl (fun h112 => ?_) (fun h112 => ?_)
   ·
    refine RH.val 8 rfl krX krX krX krX (Wanted.free rfl) (V.assign rfl rfl) rfl ?_
    refine RH.done krX ?_
    refine SG.weaken (rest () trivial) ?_ ?_
    ·
     repeat (first | exact EnvLe.nil _ | refine EnvLe.cons (by first | rfl | (rw [hq]; first | exact congrArg (fun x => some (Value.bool x)) (decide_eq_true (by first | omega | assumption)).symm | exact congrArg (fun x => some (Value.bool x)) (decide_eq_false (by first | omega | assumption)).symm)) ?_)
    ·
     rw [hq]
     refine Nd.ent (la := la) (ln := ln) (lc := lc) (va := none) (vn := 0) (vc := 0) (ma := none) (mn := 0) (mc := 0) (oa := oa) (on := on) (oc := oc) ?_
     exact entX
   ·
    refine RH.val 8 rfl krX krX krX krX (Wanted.free rfl) (V.assign rfl rfl) rfl ?_
    refine RH.done krX ?_
    refine SG.weaken (rest () trivial) ?_ ?_
    ·
     repeat (first | exact EnvLe.nil _ | refine EnvLe.cons (by first | rfl | (rw [hq]; first | exact congrArg (fun x => some (Value.bool x)) (decide_eq_true (by first | omega | assumption)).symm | exact congrArg (fun x => some (Value.bool x)) (decide_eq_false (by first | omega | assumption)).symm)) ?_)
    ·
     rw [hq]
     refine Nd.ent (la := la) (ln := ln) (lc := lc) (va := none) (vn := 0) (vc := 0) (ma := none) (mn := 0) (mc := 0) (oa := oa) (on := on) (oc := oc) ?_
     exact entX
 ·
  refine RH.done krX ?_
  refine SG.cond_false rfl ?_
  refine SG.skip ?_
  refine SG.seq ?_
  refine SG.join (ι := Unit) (fun _ => [(3, ptr b3 0), (4, ptr b4 0), (6, ptr b9 0), (7, vB (decide (m.term < (Rp.raised p m).term)))]) (fun _ => Nd b9 (Rp.raised p m) [] :: Sl RSlot sa sn sc m.slots :: Blk b3 50 (mv m (.slice sa sn sc)) :: Blk b4 26 [.int .i64 0, .int .i64 0, .int .i64 0, .int .i64 0, .int .i64 0, .int .i64 0, .slice none 0 0, .slice none 0 0, .slice none 0 0] :: L) (fun _ => True) ?_ (fun rest => ?_)
  ·
   rintro _ _
   try dsimp only
   have hh : handle p m = (if m.term < (Rp.raised p m).term ∨ m.yes = false then (Rp.raised p m) else storedP (Rp.raised p m) m, []) := by rw [handle, if_neg (by unfold strange; omega), handleQ]; simp [hk]
   rw [hh]
   obtain ⟨hqi, hqn⟩ := raised_id p m
   obtain ⟨qn1, qn5, qi0, qi1, qt0, qt1, qll, qlv, qlm, qvn, qmn, qc0, qc1, qmm, qdd⟩ := raised_ok ho hmo
   generalize Rp.raised p m = q at *
   refine SG.seq ?_
   refine SG.seq ?_
   refine SG.region ?_
   refine RL.val (Wanted.free rfl) (V.fieldAddr rfl rfl fo50_0) rfl ?_
   refine RL.val (Wanted.free rfl) (V.load rfl on3 rfl pickX rfl) rfl ?_
   refine RL.nil ?_
   refine SG.block ?_
   refine SG.seq ?_
   refine SG.block ?_
   refine SG.block ?_
   refine SG.seq ?_
   refine SG.seq ?_
   refine SG.seq ?_
   refine SG.region ?_
   refine RL.cmpT (Wanted.free rfl) (V.bin rfl rfl rfl B.eql) rfl (by omega) ?_
   refine RL.val (Wanted.free rfl) (V.assign rfl rfl) rfl ?_
   refine RL.nil ?_
   refine SG.cond_true rfl ?_
   refine SG.exit rfl ?_
   refine SG.inBlock ?_
   refine SG.seq ?_
   refine SG.seq ?_
   refine SG.region ?_
   refine RL.val (Wanted.free rfl) (V.move rfl rfl) rfl ?_
   refine RL.val (Wanted.free rfl) (V.move rfl rfl) rfl ?_
   refine RL.split 93 rfl (fun g120 => ?_) (fun g120 => ?_)
   ·
    refine RL.skip (Wanted.no rfl rfl rfl rfl rfl) rfl ?_
    refine RL.skip (Wanted.no rfl rfl rfl rfl rfl) rfl ?_
    refine RL.skip (Wanted.no rfl rfl rfl rfl rfl) rfl ?_
    refine RL.val (Wanted.free rfl) (V.pick_true rfl rfl rfl) rfl ?_
    refine RL.nil ?_
    refine SG.cond_true rfl ?_
    refine SG.seq ?_
    have hlate : m.term < q.term ∨ m.yes = false := by first | exact .inl (of_decide_eq_true (by assumption)) | exact .inr hyf
    rw [if_pos hlate]
    refine SG.openNd Pick.here fun la ln lc va vn vc ma mn mc oa on oc => ?_
    refine SG.publish (T := RSlot) (a := la) pickX ?_
    refine SG.publish (T := RB) (a := va) pickX ?_
    refine SG.publish (T := RI) (a := ma) pickX ?_
    refine SG.ent (RPeer.mk (p := q) memX memX memX) ?_
    refine SG.ent (Sl.nil (T := RMsg)) ?_
    refine SG.region ?_
    refine RL.val (Wanted.free rfl) (V.move rfl rfl) rfl ?_
    refine RL.val (Wanted.free rfl) (V.nilCheck rfl rfl) rfl ?_
    refine RL.val (Wanted.free rfl) (V.fieldAddr rfl rfl fo94_0) rfl ?_
    refine RL.val (Wanted.free rfl) (V.loadAgg (us := pv q (.slice la ln lc) (.slice va vn vc) (.slice ma mn mc)) rfl ag26 rfl pickX rfl rfl) rfl ?_
    refine RL.eff (Wanted.free rfl) (E.storeWhole rfl rfl rfl (by rfl) sz26 pickX pv_one (by rfl)) rfl ?_
    rintro _ _ rfl
    refine RL.val (Wanted.free rfl) (V.assign rfl rfl) rfl ?_
    refine RL.nil ?_
    refine SG.retE (Ret.r2 Try.func30 rfl (.agg rfl ag26 pickX rfl rfl) (.tmp rfl)) ?_ ⟨_, _, _, rfl, rfl⟩
    exact entX
   ·
    refine RL.val (Wanted.yes rfl rfl rfl rfl) (V.fieldAddr rfl rfl fo50_8) rfl ?_
    refine RL.val (Wanted.yes rfl rfl rfl rfl) (V.load rfl on4 rfl pickX rfl) rfl ?_
    refine RL.val (Wanted.yes rfl rfl rfl rfl) (V.not rfl rfl) rfl ?_
    refine RL.val (Wanted.free rfl) (V.pick_false rfl rfl rfl) rfl ?_
    refine RL.nil ?_
    refine SG.cond rfl (fun h129 => ?_) (fun h129 => ?_)
    ·
     have hyf : m.yes = false := by simpa using h129
     refine SG.seq ?_
     have hlate : m.term < q.term ∨ m.yes = false := by first | exact .inl (of_decide_eq_true (by assumption)) | exact .inr hyf
     rw [if_pos hlate]
     refine SG.openNd Pick.here fun la ln lc va vn vc ma mn mc oa on oc => ?_
     refine SG.publish (T := RSlot) (a := la) pickX ?_
     refine SG.publish (T := RB) (a := va) pickX ?_
     refine SG.publish (T := RI) (a := ma) pickX ?_
     refine SG.ent (RPeer.mk (p := q) memX memX memX) ?_
     refine SG.ent (Sl.nil (T := RMsg)) ?_
     refine SG.region ?_
     refine RL.val (Wanted.free rfl) (V.move rfl rfl) rfl ?_
     refine RL.val (Wanted.free rfl) (V.nilCheck rfl rfl) rfl ?_
     refine RL.val (Wanted.free rfl) (V.fieldAddr rfl rfl fo94_0) rfl ?_
     refine RL.val (Wanted.free rfl) (V.loadAgg (us := pv q (.slice la ln lc) (.slice va vn vc) (.slice ma mn mc)) rfl ag26 rfl pickX rfl rfl) rfl ?_
     refine RL.eff (Wanted.free rfl) (E.storeWhole rfl rfl rfl (by rfl) sz26 pickX pv_one (by rfl)) rfl ?_
     rintro _ _ rfl
     refine RL.val (Wanted.free rfl) (V.assign rfl rfl) rfl ?_
     refine RL.nil ?_
     refine SG.retE (Ret.r2 Try.func30 rfl (.agg rfl ag26 pickX rfl rfl) (.tmp rfl)) ?_ ⟨_, _, _, rfl, rfl⟩
     exact entX
    ·
     have hyt : m.yes = true := by simpa using h129
     refine SG.skip ?_
     refine SG.exit rfl ?_
     refine SG.seq ?_
     have hlate : ¬ (m.term < q.term ∨ m.yes = false) := by
      rintro (h | h)
      ·
       exact absurd h (of_decide_eq_false (by assumption))
      ·
       rw [hyt] at h; cases h
     rw [if_neg hlate]
     refine SG.ent (RMsg.mk (m := m) (a := sa) (n' := sn) (c := sc) memX) ?_
     refine SG.drawN 8 8 (Blk b3 50 (mv m (.slice sa sn sc)) :: L) wide rfl rfl (by repeat (first | exact Ent.refl _ | (apply Ent.cons; (· repeat (first | exact Pick.here | (refine Pick.sl ?_; (· repeat (first | exact List.Mem.head _ | assumption | apply List.Mem.tail))) | apply Pick.there))) | (refine Ent.trans (Ent.drop _ _) ?_))) ?_
     refine RH.val 0 rfl krX krX krX krX (Wanted.free rfl) (V.buildA (cs := [.func (.func 70) #[] #[], .func (.func 71) #[] #[], .func (.func 72) #[] #[], .func (.func 73) #[] #[]]) [(0, _), (1, _), (2, _), (3, _)] rfl ba101 (by exact ⟨rfl, ⟨_, rfl, rfl⟩, ⟨rfl, ⟨_, rfl, rfl⟩, ⟨rfl, ⟨_, rfl, rfl⟩, ⟨rfl, ⟨_, rfl, rfl⟩, trivial⟩⟩⟩⟩) rfl) rfl ?_
     refine RH.val 1 rfl krX krX krX krX (Wanted.free rfl) (V.fieldAddr rfl rfl fo50_0) rfl ?_
     refine RH.val 2 rfl krX krX krX krX (Wanted.free rfl) (V.load rfl on3 rfl pickX rfl) rfl ?_
     refine RH.val 3 rfl krX krX krX krX (Wanted.free rfl) (V.bin rfl rfl rfl (B.subI (by omega) (by omega))) rfl ?_
     refine RH.val 4 rfl krX krX krX krX (Wanted.free rfl) (V.indexA (j := 3) rfl ar101 (one_of krX) rfl rfl rfl (by omega) rfl) rfl ?_
     refine RH.val 5 rfl krX krX krX krX (Wanted.free rfl) (V.move rfl rfl) rfl ?_
     refine RH.val 6 rfl krX krX krX krX (Wanted.free rfl) (V.loadAgg (us := mv m (.slice sa sn sc)) rfl ag50 rfl pickX rfl rfl) rfl ?_
     refine RH.one (i := 7) krX ?_
     refine RHone.eff rfl (Wanted.free rfl) (E.callV rfl rfl go73 rfl (stored_okw (p := q) (out := []) (us := mv m (.slice sa sn sc)) (m := m) pickX memX (by simp) qll qlv qlm qn1 qn5 qi0 qi1 qt0 qt1 qmn hf0 (by omega) (by have := hmo.x0; have := hmo.x1; unfold inInt; omega) qc0)) rfl ?_
     rintro _ _ ⟨rfl, rfl⟩
     refine ⟨.inr entX, ?_⟩
     refine RH.done krX ?_
     refine SG.seq ?_
     refine SG.openNd (p := (storedP q m)) pickX fun la ln lc va vn vc ma mn mc oa on oc => ?_
     refine SG.buf (T := RMsg) (a := oa) pickX fun hol _ _ => ?_
     subst hol
     refine SG.publish (T := RSlot) (a := la) pickX ?_
     refine SG.publish (T := RB) (a := va) pickX ?_
     refine SG.publish (T := RI) (a := ma) pickX ?_
     refine SG.ent (RPeer.mk (p := (storedP q m)) memX memX memX) ?_
     refine SG.publish (T := RMsg) (a := oa) pickX ?_
     refine SG.drawP1 10 4 wide rfl rfl rfl pickX ?_
     refine RH.val 0 rfl krX krX krX krX (Wanted.free rfl) (V.move rfl rfl) rfl ?_
     refine RH.val 1 rfl krX krX krX krX (Wanted.free rfl) (V.nilCheck rfl rfl) rfl ?_
     refine RH.val 2 rfl krX krX krX krX (Wanted.free rfl) (V.fieldAddr rfl rfl fo94_0) rfl ?_
     refine RH.val 3 rfl krX krX krX krX (Wanted.free rfl) (V.loadAgg (us := pv (storedP q m) (.slice la ln lc) (.slice va vn vc) (.slice ma mn mc)) rfl ag26 rfl pickX rfl rfl) rfl ?_
     refine RH.val 4 rfl krX krX krX krX (Wanted.free rfl) (V.move rfl rfl) rfl ?_
     refine RH.val 5 rfl krX krX krX krX (Wanted.free rfl) (V.nilCheck rfl rfl) rfl ?_
     refine RH.val 6 rfl krX krX krX krX (Wanted.free rfl) (V.fieldAddr rfl rfl fo94_1) rfl ?_
     refine RH.val 7 rfl krX krX krX krX (Wanted.free rfl) (V.load rfl on35 rfl pickX rfl) rfl ?_
     refine RH.one (i := 8) krX ?_
     refine RHone.eff rfl (Wanted.free rfl) (E.storeWhole rfl rfl rfl (by rfl) sz26 pickX pv_one (by rfl)) rfl ?_
     rintro _ _ rfl
     refine ⟨.inr entX, ?_⟩
     refine RH.val 9 rfl krX krX krX krX (Wanted.free rfl) (V.assign rfl rfl) rfl ?_
     refine RH.done krX ?_
     refine SG.retE (Ret.r2 Try.func30 rfl (.agg rfl ag26 pickX rfl rfl) (.tmp rfl)) ?_ ⟨_, _, _, rfl, rfl⟩
     exact entX
  ·
   have hq := raised_no (p := p) (m := m) (by omega)
   refine SG.drawL 9 9 wide rfl rfl ?_
   refine RH.val 0 rfl krX krX krX krX (Wanted.free rfl) (V.fieldAddr rfl rfl fo50_3) rfl ?_
   refine RH.val 1 rfl krX krX krX krX (Wanted.free rfl) (V.load rfl on3 rfl pickX rfl) rfl ?_
   refine RH.val 2 rfl krX krX krX krX (Wanted.free rfl) (V.move rfl rfl) rfl ?_
   refine RH.val 3 rfl krX krX krX krX (Wanted.free rfl) (V.nilCheck rfl rfl) rfl ?_
   refine RH.val 4 rfl krX krX krX krX (Wanted.free rfl) (V.fieldAddr rfl rfl fo94_0) rfl ?_
   refine RH.val 5 rfl krX krX krX krX (Wanted.free rfl) (V.fieldAddr rfl rfl fo26_2) rfl ?_
   refine RH.val 6 rfl krX krX krX krX (Wanted.free rfl) (V.load rfl on3 rfl pickX rfl) rfl ?_
   refine RH.cmp 7 rfl krX krX krX krX (Wanted.free rfl) (V.bin rfl rfl rfl B.lss) rfl (fun h161 => ?_) (fun h161 => ?_)
   ·
    refine RH.val 8 rfl krX krX krX krX (Wanted.free rfl) (V.assign rfl rfl) rfl ?_
    refine RH.done krX ?_
    refine SG.weaken (rest () trivial) ?_ ?_
    ·
     repeat (first | exact EnvLe.nil _ | refine EnvLe.cons (by first | rfl | (rw [hq]; first | exact congrArg (fun x => some (Value.bool x)) (decide_eq_true (by first | omega | assumption)).symm | exact congrArg (fun x => some (Value.bool x)) (decide_eq_false (by first | omega | assumption)).symm)) ?_)
    ·
     rw [hq]
     refine Nd.ent (la := la) (ln := ln) (lc := lc) (va := va) (vn := vn) (vc := vc) (ma := ma) (mn := mn) (mc := mc) (oa := oa) (on := on) (oc := oc) ?_
     exact entX
   ·
    refine RH.val 8 rfl krX krX krX krX (Wanted.free rfl) (V.assign rfl rfl) rfl ?_
    refine RH.done krX ?_
    refine SG.weaken (rest () trivial) ?_ ?_
    ·
     repeat (first | exact EnvLe.nil _ | refine EnvLe.cons (by first | rfl | (rw [hq]; first | exact congrArg (fun x => some (Value.bool x)) (decide_eq_true (by first | omega | assumption)).symm | exact congrArg (fun x => some (Value.bool x)) (decide_eq_false (by first | omega | assumption)).symm)) ?_)
    ·
     rw [hq]
     refine Nd.ent (la := la) (ln := ln) (lc := lc) (va := va) (vn := vn) (vc := vc) (ma := ma) (mn := mn) (mc := mc) (oa := oa) (on := on) (oc := oc) ?_
     exact entX

theorem handle_okw {κ : World} {L : List Assn} {us ms : List Value} {p : Peer} {m : Msg} (hm : Rd RPeer us p ∈ L) (hmm : Rd RMsg ms m ∈ L) (ho : POk p) (hmo : MOk m) : Ctr Try.prog 30 #[.agg us.toArray, .agg ms.toArray] κ L (fun v M => ∃ us' a c, v = .tuple #[.agg us'.toArray, .slice a (handle p m).2.length c] ∧ M = Rd RPeer us' (handle p m).1 :: Sl RMsg a (handle p m).2.length c (handle p m).2 :: L) := by
  by_cases hs : strange p m
  · exact handle_strange hm hmm ho hmo hs
  · have h := hs
    unfold strange at h
    have h1 : m.to = p.id := by omega
    have h4 : m.kind = 1 ∨ m.kind = 2 ∨ m.kind = 3 ∨ m.kind = 4 := by omega
    rcases h4 with h4 | h4 | h4 | h4
    · exact handle_k1 hm hmm ho hmo h4 h1 (by omega) (by omega) (by omega)
    · exact handle_k2 hm hmm ho hmo h4 h1 (by omega) (by omega) (by omega)
    · exact handle_k3 hm hmm ho hmo h4 h1 (by omega) (by omega) (by omega)
    · exact handle_k4 hm hmm ho hmo h4 h1 (by omega) (by omega) (by omega)
end Go.Proofs.Ytilcnglcflohoaa
