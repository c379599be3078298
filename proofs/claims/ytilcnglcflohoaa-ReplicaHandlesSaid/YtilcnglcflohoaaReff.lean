/- The reference: Handle. -/
import Derived.Test.YtilcnglcflohoaaRefe
namespace Go.Proofs.Ytilcnglcflohoaa
open Go.Wk Go.Rp

theorem store_one (p : Peer) (m : Msg) : (Rp.store p m).2.length = 1 := by
  unfold Rp.store; split
  · rfl
  · split <;> rfl
set_option maxRecDepth 100000 in
set_option maxHeartbeats 1000000 in
theorem rhandle_strange {κ : World} {L : List Assn} {us ms : List Value} {p : Peer} {m : Msg} (hm : Rd RPeer us p ∈ L) (hmm : Rd RMsg ms m ∈ L) (ho : POk p) (hmo : MOk m) (hs : strange p m) :
    Ctr Try.prog 31 #[.agg us.toArray, .agg ms.toArray] κ L (fun v M => ∃ us' a c, v = .tuple #[.agg us'.toArray, .slice a (handle p m).2.length c] ∧ M = Rd RPeer us' (handle p m).1 :: Sl RMsg a (handle p m).2.length c (handle p m).2 :: L) := by
 refine Ctr.enter (vs := [.agg us.toArray, .agg ms.toArray]) (m := 115) Try.func31 rfl rfl rfl ?_
 refine SG.openPeer (Pick.rd hm) fun ka kn kc wa wn wc xa xn xc hus => ?_
 subst hus
 refine SG.openMsg (us := ms) (m := m) (Pick.rd (T := RMsg) memX) fun sa sn sc hms => ?_
 subst hms
 obtain ⟨n1, n5, i0, i1, t0, t1, ll, lv, lm, vn, mn, c0, c1, mm, dd⟩ := id ho
 have hm0 := hmo.t0
 have hm1 := hmo.t1
 rw [show handle p m = (p, []) from if_pos hs]
 unfold strange at hs
 refine SG.ent (Sl.nil (T := RMsg)) ?_
 refine SG.seq ?_
 refine SG.region ?_
 refine RL.eff (Wanted.free rfl) (E.box _ rfl rfl rfl) rfl ?_
 rintro _ _ ⟨b2, rfl, rfl⟩
 refine RL.eff (Wanted.free rfl) (E.box _ rfl rfl rfl) rfl ?_
 rintro _ _ ⟨b3, rfl, rfl⟩
 refine RL.eff (Wanted.free rfl) (E.alloc rfl ze26) rfl ?_
 rintro _ _ ⟨b4, rfl, rfl⟩
 refine RL.val (Wanted.free rfl) (V.assign rfl rfl) rfl ?_
 refine RL.nil ?_
 refine SG.seq ?_
 refine SG.seq ?_
 refine SG.region ?_
 refine RL.val (Wanted.free rfl) (V.fieldAddr rfl rfl fo50_2) rfl ?_
 refine RL.val (Wanted.free rfl) (V.load rfl on3 rfl pickX rfl) rfl ?_
 refine RL.val (Wanted.free rfl) (V.fieldAddr rfl rfl fo26_0) rfl ?_
 refine RL.val (Wanted.free rfl) (V.load rfl on3 rfl pickX rfl) rfl ?_
 refine RL.cmp (Wanted.free rfl) (V.bin rfl rfl rfl B.neq) rfl (fun h9 => ?_) (fun h9 => ?_)
 ·
  refine RL.val (Wanted.free rfl) (V.move rfl rfl) rfl ?_
  refine RL.skip (Wanted.no rfl rfl rfl rfl rfl) rfl ?_
  refine RL.skip (Wanted.no rfl rfl rfl rfl rfl) rfl ?_
  refine RL.skip (Wanted.no rfl rfl rfl rfl rfl) rfl ?_
  refine RL.val (Wanted.free rfl) (V.pick_true rfl rfl rfl) rfl ?_
  refine RL.val (Wanted.free rfl) (V.move rfl rfl) rfl ?_
  refine RL.skip (Wanted.no rfl rfl rfl rfl rfl) rfl ?_
  refine RL.skip (Wanted.no rfl rfl rfl rfl rfl) rfl ?_
  refine RL.skip (Wanted.no rfl rfl rfl rfl rfl) rfl ?_
  refine RL.skip (Wanted.no rfl rfl rfl rfl rfl) rfl ?_
  refine RL.skip (Wanted.no rfl rfl rfl rfl rfl) rfl ?_
  refine RL.val (Wanted.free rfl) (V.pick_true rfl rfl rfl) rfl ?_
  refine RL.val (Wanted.free rfl) (V.move rfl rfl) rfl ?_
  refine RL.skip (Wanted.no rfl rfl rfl rfl rfl) rfl ?_
  refine RL.skip (Wanted.no rfl rfl rfl rfl rfl) rfl ?_
  refine RL.skip (Wanted.no rfl rfl rfl rfl rfl) rfl ?_
  refine RL.skip (Wanted.no rfl rfl rfl rfl rfl) rfl ?_
  refine RL.skip (Wanted.no rfl rfl rfl rfl rfl) rfl ?_
  refine RL.val (Wanted.free rfl) (V.pick_true rfl rfl rfl) rfl ?_
  refine RL.val (Wanted.free rfl) (V.move rfl rfl) rfl ?_
  refine RL.skip (Wanted.no rfl rfl rfl rfl rfl) rfl ?_
  refine RL.skip (Wanted.no rfl rfl rfl rfl rfl) rfl ?_
  refine RL.skip (Wanted.no rfl rfl rfl rfl rfl) rfl ?_
  refine RL.val (Wanted.free rfl) (V.pick_true rfl rfl rfl) rfl ?_
  refine RL.val (Wanted.free rfl) (V.move rfl rfl) rfl ?_
  refine RL.skip (Wanted.no rfl rfl rfl rfl rfl) rfl ?_
  refine RL.skip (Wanted.no rfl rfl rfl rfl rfl) rfl ?_
  refine RL.skip (Wanted.no rfl rfl rfl rfl rfl) rfl ?_
  refine RL.val (Wanted.free rfl) (V.pick_true rfl rfl rfl) rfl ?_
  refine RL.nil ?_
  refine SG.cond_true rfl ?_
  refine SG.seq ?_
  refine SG.region ?_
  refine RL.val (Wanted.free rfl) (V.loadAgg (us := pv p (.slice ka kn kc) (.slice wa wn wc) (.slice xa xn xc)) rfl ag26 rfl pickX rfl rfl) rfl ?_
  refine RL.eff (Wanted.free rfl) (E.storeWhole rfl rfl rfl (by rfl) sz26 pickX pv_one (by rfl)) rfl ?_
  rintro _ _ rfl
  refine RL.val (Wanted.free rfl) (V.assign rfl rfl) rfl ?_
  refine RL.nil ?_
  refine SG.ent (Pick.rd (T := RPeer) (cs := pv p (.slice ka kn kc) (.slice wa wn wc) (.slice xa xn xc)) (y := p) memX) ?_
  refine SG.retE (Ret.r2 Try.func31 rfl (.agg rfl ag26 pickX rfl rfl) (.tmp rfl)) ?_ ⟨_, _, _, rfl, rfl⟩
  exact entX
 ·
  refine RL.val (Wanted.free rfl) (V.move rfl rfl) rfl ?_
  refine RL.val (Wanted.yes rfl rfl rfl rfl) (V.fieldAddr rfl rfl fo50_1) rfl ?_
  refine RL.val (Wanted.yes rfl rfl rfl rfl) (V.load rfl on3 rfl pickX rfl) rfl ?_
  refine RL.cmp (Wanted.yes rfl rfl rfl rfl) (V.bin rfl rfl rfl B.lss) rfl (fun h21 => ?_) (fun h21 => ?_)
  ·
   refine RL.val (Wanted.free rfl) (V.pick_false rfl rfl rfl) rfl ?_
   refine RL.val (Wanted.free rfl) (V.move rfl rfl) rfl ?_
   refine RL.skip (Wanted.no rfl rfl rfl rfl rfl) rfl ?_
   refine RL.skip (Wanted.no rfl rfl rfl rfl rfl) rfl ?_
   refine RL.skip (Wanted.no rfl rfl rfl rfl rfl) rfl ?_
   refine RL.skip (Wanted.no rfl rfl rfl rfl rfl) rfl ?_
   refine RL.skip (Wanted.no rfl rfl rfl rfl rfl) rfl ?_
   refine RL.val (Wanted.free rfl) (V.pick_true rfl rfl rfl) rfl ?_
   refine RL.val (Wanted.free rfl) (V.move rfl rfl) rfl ?_
   refine RL.skip (Wanted.no rfl rfl rfl rfl rfl) rfl ?_
   refine RL.skip (Wanted.no rfl rfl rfl rfl rfl) rfl ?_
   refine RL.skip (Wanted.no rfl rfl rfl rfl rfl) rfl ?_
   refine RL.skip (Wanted.no rfl rfl rfl rfl rfl) rfl ?_
   refine RL.skip (Wanted.no rfl rfl rfl rfl rfl) rfl ?_
   refine RL.val (Wanted.free rfl) (V.pick_true rfl rfl rfl) rfl ?_
   refine RL.val (Wanted.free rfl) (V.move rfl rfl) rfl ?_
   refine RL.skip (Wanted.no rfl rfl rfl rfl rfl) rfl ?_
   refine RL.skip (Wanted.no rfl rfl rfl rfl rfl) rfl ?_
   refine RL.skip (Wanted.no rfl rfl rfl rfl rfl) rfl ?_
   refine RL.val (Wanted.free rfl) (V.pick_true rfl rfl rfl) rfl ?_
   refine RL.val (Wanted.free rfl) (V.move rfl rfl) rfl ?_
   refine RL.skip (Wanted.no rfl rfl rfl rfl rfl) rfl ?_
   refine RL.skip (Wanted.no rfl rfl rfl rfl rfl) rfl ?_
   refine RL.skip (Wanted.no rfl rfl rfl rfl rfl) rfl ?_
   refine RL.val (Wanted.free rfl) (V.pick_true rfl rfl rfl) rfl ?_
   refine RL.nil ?_
   refine SG.cond_true rfl ?_
   refine SG.seq ?_
   refine SG.region ?_
   refine RL.val (Wanted.free rfl) (V.loadAgg (us := pv p (.slice ka kn kc) (.slice wa wn wc) (.slice xa xn xc)) rfl ag26 rfl pickX rfl rfl) rfl ?_
   refine RL.eff (Wanted.free rfl) (E.storeWhole rfl rfl rfl (by rfl) sz26 pickX pv_one (by rfl)) rfl ?_
   rintro _ _ rfl
   refine RL.val (Wanted.free rfl) (V.assign rfl rfl) rfl ?_
   refine RL.nil ?_
   refine SG.ent (Pick.rd (T := RPeer) (cs := pv p (.slice ka kn kc) (.slice wa wn wc) (.slice xa xn xc)) (y := p) memX) ?_
   refine SG.retE (Ret.r2 Try.func31 rfl (.agg rfl ag26 pickX rfl rfl) (.tmp rfl)) ?_ ⟨_, _, _, rfl, rfl⟩
   exact entX
  ·
   refine RL.val (Wanted.free rfl) (V.pick_false rfl rfl rfl) rfl ?_
   refine RL.val (Wanted.free rfl) (V.move rfl rfl) rfl ?_
   refine RL.val (Wanted.yes rfl rfl rfl rfl) (V.fieldAddr rfl rfl fo50_1) rfl ?_
   refine RL.val (Wanted.yes rfl rfl rfl rfl) (V.load rfl on3 rfl pickX rfl) rfl ?_
   refine RL.val (Wanted.yes rfl rfl rfl rfl) (V.fieldAddr rfl rfl fo26_1) rfl ?_
   refine RL.val (Wanted.yes rfl rfl rfl rfl) (V.load rfl on3 rfl pickX rfl) rfl ?_
   refine RL.cmp (Wanted.yes rfl rfl rfl rfl) (V.bin rfl rfl rfl B.geq) rfl (fun h34 => ?_) (fun h34 => ?_)
   ·
    refine RL.val (Wanted.free rfl) (V.pick_false rfl rfl rfl) rfl ?_
    refine RL.val (Wanted.free rfl) (V.move rfl rfl) rfl ?_
    refine RL.skip (Wanted.no rfl rfl rfl rfl rfl) rfl ?_
    refine RL.skip (Wanted.no rfl rfl rfl rfl rfl) rfl ?_
    refine RL.skip (Wanted.no rfl rfl rfl rfl rfl) rfl ?_
    refine RL.skip (Wanted.no rfl rfl rfl rfl rfl) rfl ?_
    refine RL.skip (Wanted.no rfl rfl rfl rfl rfl) rfl ?_
    refine RL.val (Wanted.free rfl) (V.pick_true rfl rfl rfl) rfl ?_
    refine RL.val (Wanted.free rfl) (V.move rfl rfl) rfl ?_
    refine RL.skip (Wanted.no rfl rfl rfl rfl rfl) rfl ?_
    refine RL.skip (Wanted.no rfl rfl rfl rfl rfl) rfl ?_
    refine RL.skip (Wanted.no rfl rfl rfl rfl rfl) rfl ?_
    refine RL.val (Wanted.free rfl) (V.pick_true rfl rfl rfl) rfl ?_
    refine RL.val (Wanted.free rfl) (V.move rfl rfl) rfl ?_
    refine RL.skip (Wanted.no rfl rfl rfl rfl rfl) rfl ?_
    refine RL.skip (Wanted.no rfl rfl rfl rfl rfl) rfl ?_
    refine RL.skip (Wanted.no rfl rfl rfl rfl rfl) rfl ?_
    refine RL.val (Wanted.free rfl) (V.pick_true rfl rfl rfl) rfl ?_
    refine RL.nil ?_
    refine SG.cond_true rfl ?_
    refine SG.seq ?_
    refine SG.region ?_
    refine RL.val (Wanted.free rfl) (V.loadAgg (us := pv p (.slice ka kn kc) (.slice wa wn wc) (.slice xa xn xc)) rfl ag26 rfl pickX rfl rfl) rfl ?_
    refine RL.eff (Wanted.free rfl) (E.storeWhole rfl rfl rfl (by rfl) sz26 pickX pv_one (by rfl)) rfl ?_
    rintro _ _ rfl
    refine RL.val (Wanted.free rfl) (V.assign rfl rfl) rfl ?_
    refine RL.nil ?_
    refine SG.ent (Pick.rd (T := RPeer) (cs := pv p (.slice ka kn kc) (.slice wa wn wc) (.slice xa xn xc)) (y := p) memX) ?_
    refine SG.retE (Ret.r2 Try.func31 rfl (.agg rfl ag26 pickX rfl rfl) (.tmp rfl)) ?_ ⟨_, _, _, rfl, rfl⟩
    exact entX
   ·
    refine RL.val (Wanted.free rfl) (V.pick_false rfl rfl rfl) rfl ?_
    refine RL.val (Wanted.free rfl) (V.move rfl rfl) rfl ?_
    refine RL.val (Wanted.yes rfl rfl rfl rfl) (V.fieldAddr rfl rfl fo50_1) rfl ?_
    refine RL.val (Wanted.yes rfl rfl rfl rfl) (V.load rfl on3 rfl pickX rfl) rfl ?_
    refine RL.val (Wanted.yes rfl rfl rfl rfl) (V.fieldAddr rfl rfl fo26_0) rfl ?_
    refine RL.val (Wanted.yes rfl rfl rfl rfl) (V.load rfl on3 rfl pickX rfl) rfl ?_
    refine RL.cmp (Wanted.yes rfl rfl rfl rfl) (V.bin rfl rfl rfl B.eql) rfl (fun h46 => ?_) (fun h46 => ?_)
    ·
     refine RL.val (Wanted.free rfl) (V.pick_false rfl rfl rfl) rfl ?_
     refine RL.val (Wanted.free rfl) (V.move rfl rfl) rfl ?_
     refine RL.skip (Wanted.no rfl rfl rfl rfl rfl) rfl ?_
     refine RL.skip (Wanted.no rfl rfl rfl rfl rfl) rfl ?_
     refine RL.skip (Wanted.no rfl rfl rfl rfl rfl) rfl ?_
     refine RL.val (Wanted.free rfl) (V.pick_true rfl rfl rfl) rfl ?_
     refine RL.val (Wanted.free rfl) (V.move rfl rfl) rfl ?_
     refine RL.skip (Wanted.no rfl rfl rfl rfl rfl) rfl ?_
     refine RL.skip (Wanted.no rfl rfl rfl rfl rfl) rfl ?_
     refine RL.skip (Wanted.no rfl rfl rfl rfl rfl) rfl ?_
     refine RL.val (Wanted.free rfl) (V.pick_true rfl rfl rfl) rfl ?_
     refine RL.nil ?_
     refine SG.cond_true rfl ?_
     refine SG.seq ?_
     refine SG.region ?_
     refine RL.val (Wanted.free rfl) (V.loadAgg (us := pv p (.slice ka kn kc) (.slice wa wn wc) (.slice xa xn xc)) rfl ag26 rfl pickX rfl rfl) rfl ?_
     refine RL.eff (Wanted.free rfl) (E.storeWhole rfl rfl rfl (by rfl) sz26 pickX pv_one (by rfl)) rfl ?_
     rintro _ _ rfl
     refine RL.val (Wanted.free rfl) (V.assign rfl rfl) rfl ?_
     refine RL.nil ?_
     refine SG.ent (Pick.rd (T := RPeer) (cs := pv p (.slice ka kn kc) (.slice wa wn wc) (.slice xa xn xc)) (y := p) memX) ?_
     refine SG.retE (Ret.r2 Try.func31 rfl (.agg rfl ag26 pickX rfl rfl) (.tmp rfl)) ?_ ⟨_, _, _, rfl, rfl⟩
     exact entX
    ·
     refine RL.val (Wanted.free rfl) (V.pick_false rfl rfl rfl) rfl ?_
     refine RL.val (Wanted.free rfl) (V.move rfl rfl) rfl ?_
     refine RL.val (Wanted.yes rfl rfl rfl rfl) (V.fieldAddr rfl rfl fo50_0) rfl ?_
     refine RL.val (Wanted.yes rfl rfl rfl rfl) (V.load rfl on3 rfl pickX rfl) rfl ?_
     refine RL.cmp (Wanted.yes rfl rfl rfl rfl) (V.bin rfl rfl rfl B.lss) rfl (fun h55 => ?_) (fun h55 => ?_)
     ·
      refine RL.val (Wanted.free rfl) (V.pick_false rfl rfl rfl) rfl ?_
      refine RL.val (Wanted.free rfl) (V.move rfl rfl) rfl ?_
      refine RL.skip (Wanted.no rfl rfl rfl rfl rfl) rfl ?_
      refine RL.skip (Wanted.no rfl rfl rfl rfl rfl) rfl ?_
      refine RL.skip (Wanted.no rfl rfl rfl rfl rfl) rfl ?_
      refine RL.val (Wanted.free rfl) (V.pick_true rfl rfl rfl) rfl ?_
      refine RL.nil ?_
      refine SG.cond_true rfl ?_
      refine SG.seq ?_
      refine SG.region ?_
      refine RL.val (Wanted.free rfl) (V.loadAgg (us := pv p (.slice ka kn kc) (.slice wa wn wc) (.slice xa xn xc)) rfl ag26 rfl pickX rfl rfl) rfl ?_
      refine RL.eff (Wanted.free rfl) (E.storeWhole rfl rfl rfl (by rfl) sz26 pickX pv_one (by rfl)) rfl ?_
      rintro _ _ rfl
      refine RL.val (Wanted.free rfl) (V.assign rfl rfl) rfl ?_
      refine RL.nil ?_
      refine SG.ent (Pick.rd (T := RPeer) (cs := pv p (.slice ka kn kc) (.slice wa wn wc) (.slice xa xn xc)) (y := p) memX) ?_
      refine SG.retE (Ret.r2 Try.func31 rfl (.agg rfl ag26 pickX rfl rfl) (.tmp rfl)) ?_ ⟨_, _, _, rfl, rfl⟩
      exact entX
     ·
      refine RL.val (Wanted.free rfl) (V.pick_false rfl rfl rfl) rfl ?_
      refine RL.val (Wanted.free rfl) (V.move rfl rfl) rfl ?_
      refine RL.val (Wanted.yes rfl rfl rfl rfl) (V.fieldAddr rfl rfl fo50_0) rfl ?_
      refine RL.val (Wanted.yes rfl rfl rfl rfl) (V.load rfl on3 rfl pickX rfl) rfl ?_
      refine RL.cmpT (Wanted.yes rfl rfl rfl rfl) (V.bin rfl rfl rfl B.gtr) rfl (by omega) ?_
      refine RL.val (Wanted.free rfl) (V.pick_false rfl rfl rfl) rfl ?_
      refine RL.nil ?_
      refine SG.cond_true rfl ?_
      refine SG.seq ?_
      refine SG.region ?_
      refine RL.val (Wanted.free rfl) (V.loadAgg (us := pv p (.slice ka kn kc) (.slice wa wn wc) (.slice xa xn xc)) rfl ag26 rfl pickX rfl rfl) rfl ?_
      refine RL.eff (Wanted.free rfl) (E.storeWhole rfl rfl rfl (by rfl) sz26 pickX pv_one (by rfl)) rfl ?_
      rintro _ _ rfl
      refine RL.val (Wanted.free rfl) (V.assign rfl rfl) rfl ?_
      refine RL.nil ?_
      refine SG.ent (Pick.rd (T := RPeer) (cs := pv p (.slice ka kn kc) (.slice wa wn wc) (.slice xa xn xc)) (y := p) memX) ?_
      refine SG.retE (Ret.r2 Try.func31 rfl (.agg rfl ag26 pickX rfl rfl) (.tmp rfl)) ?_ ⟨_, _, _, rfl, rfl⟩
      exact entX

set_option maxRecDepth 100000 in
set_option maxHeartbeats 1000000 in
theorem rhandle_k1 {κ : World} {L : List Assn} {us ms : List Value} {p : Peer} {m : Msg} (hm : Rd RPeer us p ∈ L) (hmm : Rd RMsg ms m ∈ L) (ho : POk p) (hmo : MOk m) (hk : m.kind = 1) (h1 : m.to = p.id) (hf0 : 0 ≤ m.frm) (hf1 : m.frm < p.nodes) (hf2 : m.frm ≠ p.id) :
    Ctr Try.prog 31 #[.agg us.toArray, .agg ms.toArray] κ L (fun v M => ∃ us' a c, v = .tuple #[.agg us'.toArray, .slice a (handle p m).2.length c] ∧ M = Rd RPeer us' (handle p m).1 :: Sl RMsg a (handle p m).2.length c (handle p m).2 :: L) := by
 refine Ctr.enter (vs := [.agg us.toArray, .agg ms.toArray]) (m := 115) Try.func31 rfl rfl rfl ?_
 refine SG.openPeer (Pick.rd hm) fun ka kn kc wa wn wc xa xn xc hus => ?_
 subst hus
 refine SG.openMsg (us := ms) (m := m) (Pick.rd (T := RMsg) memX) fun sa sn sc hms => ?_
 subst hms
 obtain ⟨n1, n5, i0, i1, t0, t1, ll, lv, lm, vn, mn, c0, c1, mm, dd⟩ := id ho
 have hm0 := hmo.t0
 have hm1 := hmo.t1
 refine SG.seq ?_
 refine SG.region ?_
 refine RL.eff (Wanted.free rfl) (E.box _ rfl rfl rfl) rfl ?_
 rintro _ _ ⟨b2, rfl, rfl⟩
 refine RL.eff (Wanted.free rfl) (E.box _ rfl rfl rfl) rfl ?_
 rintro _ _ ⟨b3, rfl, rfl⟩
 refine RL.eff (Wanted.free rfl) (E.alloc rfl ze26) rfl ?_
 rintro _ _ ⟨b4, rfl, rfl⟩
 refine RL.val (Wanted.free rfl) (V.assign rfl rfl) rfl ?_
 refine RL.nil ?_
 refine SG.seq ?_
 refine SG.seq ?_
 refine SG.region ?_
 refine RL.val (Wanted.free rfl) (V.fieldAddr rfl rfl fo50_2) rfl ?_
 refine RL.val (Wanted.free rfl) (V.load rfl on3 rfl pickX rfl) rfl ?_
 refine RL.val (Wanted.free rfl) (V.fieldAddr rfl rfl fo26_0) rfl ?_
 refine RL.val (Wanted.free rfl) (V.load rfl on3 rfl pickX rfl) rfl ?_
 refine RL.cmpF (Wanted.free rfl) (V.bin rfl rfl rfl B.neq) rfl (by omega) ?_
 refine RL.val (Wanted.free rfl) (V.move rfl rfl) rfl ?_
 refine RL.val (Wanted.yes rfl rfl rfl rfl) (V.fieldAddr rfl rfl fo50_1) rfl ?_
 refine RL.val (Wanted.yes rfl rfl rfl rfl) (V.load rfl on3 rfl pickX rfl) rfl ?_
 refine RL.cmpF (Wanted.yes rfl rfl rfl rfl) (V.bin rfl rfl rfl B.lss) rfl (by omega) ?_
 refine RL.val (Wanted.free rfl) (V.pick_false rfl rfl rfl) rfl ?_
 refine RL.val (Wanted.free rfl) (V.move rfl rfl) rfl ?_
 refine RL.val (Wanted.yes rfl rfl rfl rfl) (V.fieldAddr rfl rfl fo50_1) rfl ?_
 refine RL.val (Wanted.yes rfl rfl rfl rfl) (V.load rfl on3 rfl pickX rfl) rfl ?_
 refine RL.val (Wanted.yes rfl rfl rfl rfl) (V.fieldAddr rfl rfl fo26_1) rfl ?_
 refine RL.val (Wanted.yes rfl rfl rfl rfl) (V.load rfl on3 rfl pickX rfl) rfl ?_
 refine RL.cmpF (Wanted.yes rfl rfl rfl rfl) (V.bin rfl rfl rfl B.geq) rfl (by omega) ?_
 refine RL.val (Wanted.free rfl) (V.pick_false rfl rfl rfl) rfl ?_
 refine RL.val (Wanted.free rfl) (V.move rfl rfl) rfl ?_
 refine RL.val (Wanted.yes rfl rfl rfl rfl) (V.fieldAddr rfl rfl fo50_1) rfl ?_
 refine RL.val (Wanted.yes rfl rfl rfl rfl) (V.load rfl on3 rfl pickX rfl) rfl ?_
 refine RL.val (Wanted.yes rfl rfl rfl rfl) (V.fieldAddr rfl rfl fo26_0) rfl ?_
 refine RL.val (Wanted.yes rfl rfl rfl rfl) (V.load rfl on3 rfl pickX rfl) rfl ?_
 refine RL.cmpF (Wanted.yes rfl rfl rfl rfl) (V.bin rfl rfl rfl B.eql) rfl (by omega) ?_
 refine RL.val (Wanted.free rfl) (V.pick_false rfl rfl rfl) rfl ?_
 refine RL.val (Wanted.free rfl) (V.move rfl rfl) rfl ?_
 refine RL.val (Wanted.yes rfl rfl rfl rfl) (V.fieldAddr rfl rfl fo50_0) rfl ?_
 refine RL.val (Wanted.yes rfl rfl rfl rfl) (V.load rfl on3 rfl pickX rfl) rfl ?_
 refine RL.cmpF (Wanted.yes rfl rfl rfl rfl) (V.bin rfl rfl rfl B.lss) rfl (by omega) ?_
 refine RL.val (Wanted.free rfl) (V.pick_false rfl rfl rfl) rfl ?_
 refine RL.val (Wanted.free rfl) (V.move rfl rfl) rfl ?_
 refine RL.val (Wanted.yes rfl rfl rfl rfl) (V.fieldAddr rfl rfl fo50_0) rfl ?_
 refine RL.val (Wanted.yes rfl rfl rfl rfl) (V.load rfl on3 rfl pickX rfl) rfl ?_
 refine RL.cmpF (Wanted.yes rfl rfl rfl rfl) (V.bin rfl rfl rfl B.gtr) rfl (by omega) ?_
 refine RL.val (Wanted.free rfl) (V.pick_false rfl rfl rfl) rfl ?_
 refine RL.nil ?_
 refine SG.cond_false rfl ?_
 refine SG.skip ?_
 refine SG.seq ?_
 refine SG.seq ?_
 refine SG.region ?_
 refine RL.val (Wanted.free rfl) (V.fieldAddr rfl rfl fo50_3) rfl ?_
 refine RL.val (Wanted.free rfl) (V.load rfl on3 rfl pickX rfl) rfl ?_
 refine RL.val (Wanted.free rfl) (V.fieldAddr rfl rfl fo26_2) rfl ?_
 refine RL.val (Wanted.free rfl) (V.load rfl on3 rfl pickX rfl) rfl ?_
 refine RL.cmp (Wanted.free rfl) (V.bin rfl rfl rfl B.gtr) rfl (fun h32 => ?_) (fun h32 => ?_)
 ·
  have hq := raised_yes (p := p) (m := m) (by omega)
  refine RL.nil ?_
  refine SG.cond_true rfl ?_
  refine SG.region ?_
  refine RL.val (Wanted.free rfl) (V.loadAgg (us := pv p (.slice ka kn kc) (.slice wa wn wc) (.slice xa xn xc)) rfl ag26 rfl pickX rfl rfl) rfl ?_
  refine RL.val (Wanted.free rfl) (V.fieldAddr rfl rfl fo50_3) rfl ?_
  refine RL.val (Wanted.free rfl) (V.load rfl on3 rfl pickX rfl) rfl ?_
  refine RL.eff (Wanted.free rfl) (E.call rfl go74 rfl (rdown_ok (p := p) (T := m.term) memX)) rfl ?_
  rintro _ _ ⟨u49, rfl, rfl⟩
  refine RL.openPeer (us := u49) (Pick.rd (T := RPeer) memX) fun ja jn jc ia im ic oa on oc hus => ?_
  subst hus
  refine RL.eff (Wanted.free rfl) (E.storeWhole rfl rfl rfl (by rfl) sz26 pickX pv_one (by rfl)) rfl ?_
  rintro _ _ rfl
  refine RL.nil ?_
  refine SG.seq ?_
  refine SG.seq ?_
  refine SG.join (ι := Tri × Tri × Tri) (fun ⟨⟨qa, qn, qc⟩, ⟨ga, gn, gc⟩, ⟨ha, hn, hc⟩⟩ => [(2, ptr b2 0), (3, ptr b3 0), (4, ptr b4 0), (5, .slice none 0 0), (51, vI m.kind)]) (fun ⟨⟨qa, qn, qc⟩, ⟨ga, gn, gc⟩, ⟨ha, hn, hc⟩⟩ => Blk b2 26 (pv (Rp.raised p m) (.slice qa qn qc) (.slice ga gn gc) (.slice ha hn hc)) :: Sl RSlot qa qn qc (Rp.raised p m).log :: Sl RB ga gn gc (Rp.raised p m).votes :: Sl RI ha hn hc (Rp.raised p m).mtch :: Rd RPeer (pv (Rp.raised p m) (.slice qa qn qc) (.slice ga gn gc) (.slice ha hn hc)) (Rp.raised p m) :: Blk b3 50 (mv m (.slice sa sn sc)) :: Blk b4 26 [.int .i64 0, .int .i64 0, .int .i64 0, .int .i64 0, .int .i64 0, .int .i64 0, .slice none 0 0, .slice none 0 0, .slice none 0 0] :: L) (fun ⟨⟨qa, qn, qc⟩, ⟨ga, gn, gc⟩, ⟨ha, hn, hc⟩⟩ => True) ?_ (fun rest => ?_)
  ·
   rintro ⟨⟨qa, qn, qc⟩, ⟨ga, gn, gc⟩, ⟨ha, hn, hc⟩⟩ _
   try dsimp only
   have hh : handle p m = (voteP (Rp.raised p m) m, [voteM (Rp.raised p m) m]) := by rw [handle, if_neg (by unfold strange; omega), handleQ]; simp [hk]
   have hrt : m.term ≤ (Rp.raised p m).term := by unfold Rp.raised; split; (· exact Int.le_refl _); (· omega)
   rw [hh]
   obtain ⟨hqi, hqn⟩ := raised_id p m
   obtain ⟨qn1, qn5, qi0, qi1, qt0, qt1, qll, qlv, qlm, qvn, qmn, qc0, qc1, qmm, qdd⟩ := raised_ok ho hmo
   generalize Rp.raised p m = q at *
   refine SG.block ?_
   refine SG.seq ?_
   refine SG.region ?_
   refine RL.cmpT (Wanted.free rfl) (V.bin rfl rfl rfl B.eql) rfl (by omega) ?_
   refine RL.val (Wanted.free rfl) (V.assign rfl rfl) rfl ?_
   refine RL.nil ?_
   refine SG.cond_true rfl ?_
   refine SG.seq ?_
   refine SG.region ?_
   refine RL.val (Wanted.free rfl) (V.loadAgg (us := pv q (.slice qa qn qc) (.slice ga gn gc) (.slice ha hn hc)) rfl ag26 rfl pickX rfl rfl) rfl ?_
   refine RL.val (Wanted.free rfl) (V.loadAgg (us := mv m (.slice sa sn sc)) rfl ag50 rfl pickX rfl rfl) rfl ?_
   refine RL.eff (Wanted.free rfl) (E.call rfl go75 rfl (rvote_ok (p := q) (m := m) memX memX (by omega))) rfl ?_
   rintro _ _ ⟨u56, a56, c56, rfl, rfl⟩
   refine RL.openPeer (us := u56) (Pick.rd (T := RPeer) memX) fun ja jn jc ia im ic oa on oc hus => ?_
   subst hus
   refine RL.val (Wanted.free rfl) (V.extract rfl rfl rfl) rfl ?_
   refine RL.val (Wanted.free rfl) (V.extract rfl rfl rfl) rfl ?_
   refine RL.eff (Wanted.free rfl) (E.storeWhole rfl rfl rfl (by rfl) sz26 pickX pv_one (by rfl)) rfl ?_
   rintro _ _ rfl
   refine RL.val (Wanted.free rfl) (V.assign rfl rfl) rfl ?_
   refine RL.nil ?_
   refine SG.retE (Ret.r2 Try.func31 rfl (.agg rfl ag26 pickX rfl rfl) (.tmp rfl)) ?_ ⟨_, _, _, rfl, rfl⟩
   exact entX
  ·
   refine SG.region ?_
   refine RL.val (Wanted.free rfl) (V.fieldAddr rfl rfl fo50_0) rfl ?_
   refine RL.val (Wanted.free rfl) (V.load rfl on3 rfl pickX rfl) rfl ?_
   refine RL.nil ?_
   try refine SG.ent (Pick.rd (T := RPeer) (cs := pv p (.slice ka kn kc) (.slice wa wn wc) (.slice xa xn xc)) (y := p) memX) ?_
   refine SG.weaken (rest ⟨(ja, jn, jc), (ia, im, ic), (oa, on, oc)⟩ trivial) ?_ ?_
   ·
    repeat (first | exact EnvLe.nil _ | refine EnvLe.cons rfl ?_)
   ·
    rw [hq]
    try dsimp only
    exact entX
 ·
  have hq := raised_no (p := p) (m := m) (by omega)
  refine RL.nil ?_
  refine SG.cond_false rfl ?_
  refine SG.skip ?_
  refine SG.seq ?_
  refine SG.seq ?_
  refine SG.join (ι := Tri × Tri × Tri) (fun ⟨⟨qa, qn, qc⟩, ⟨ga, gn, gc⟩, ⟨ha, hn, hc⟩⟩ => [(2, ptr b2 0), (3, ptr b3 0), (4, ptr b4 0), (5, .slice none 0 0), (51, vI m.kind)]) (fun ⟨⟨qa, qn, qc⟩, ⟨ga, gn, gc⟩, ⟨ha, hn, hc⟩⟩ => Blk b2 26 (pv (Rp.raised p m) (.slice qa qn qc) (.slice ga gn gc) (.slice ha hn hc)) :: Sl RSlot qa qn qc (Rp.raised p m).log :: Sl RB ga gn gc (Rp.raised p m).votes :: Sl RI ha hn hc (Rp.raised p m).mtch :: Rd RPeer (pv (Rp.raised p m) (.slice qa qn qc) (.slice ga gn gc) (.slice ha hn hc)) (Rp.raised p m) :: Blk b3 50 (mv m (.slice sa sn sc)) :: Blk b4 26 [.int .i64 0, .int .i64 0, .int .i64 0, .int .i64 0, .int .i64 0, .int .i64 0, .slice none 0 0, .slice none 0 0, .slice none 0 0] :: L) (fun ⟨⟨qa, qn, qc⟩, ⟨ga, gn, gc⟩, ⟨ha, hn, hc⟩⟩ => True) ?_ (fun rest => ?_)
  ·
   rintro ⟨⟨qa, qn, qc⟩, ⟨ga, gn, gc⟩, ⟨ha, hn, hc⟩⟩ _
   try dsimp only
   have hh : handle p m = (voteP (Rp.raised p m) m, [voteM (Rp.raised p m) m]) := by rw [handle, if_neg (by unfold strange; omega), handleQ]; simp [hk]
   have hrt : m.term ≤ (Rp.raised p m).term := by unfold Rp.raised; split; (· exact Int.le_refl _); (· omega)
   rw [hh]
   obtain ⟨hqi, hqn⟩ := raised_id p m
   obtain ⟨qn1, qn5, qi0, qi1, qt0, qt1, qll, qlv, qlm, qvn, qmn, qc0, qc1, qmm, qdd⟩ := raised_ok ho hmo
   generalize Rp.raised p m = q at *
   refine SG.block ?_
   refine SG.seq ?_
   refine SG.region ?_
   refine RL.cmpT (Wanted.free rfl) (V.bin rfl rfl rfl B.eql) rfl (by omega) ?_
   refine RL.val (Wanted.free rfl) (V.assign rfl rfl) rfl ?_
   refine RL.nil ?_
   refine SG.cond_true rfl ?_
   refine SG.seq ?_
   refine SG.region ?_
   refine RL.val (Wanted.free rfl) (V.loadAgg (us := pv q (.slice qa qn qc) (.slice ga gn gc) (.slice ha hn hc)) rfl ag26 rfl pickX rfl rfl) rfl ?_
   refine RL.val (Wanted.free rfl) (V.loadAgg (us := mv m (.slice sa sn sc)) rfl ag50 rfl pickX rfl rfl) rfl ?_
   refine RL.eff (Wanted.free rfl) (E.call rfl go75 rfl (rvote_ok (p := q) (m := m) memX memX (by omega))) rfl ?_
   rintro _ _ ⟨u56, a56, c56, rfl, rfl⟩
   refine RL.openPeer (us := u56) (Pick.rd (T := RPeer) memX) fun ja jn jc ia im ic oa on oc hus => ?_
   subst hus
   refine RL.val (Wanted.free rfl) (V.extract rfl rfl rfl) rfl ?_
   refine RL.val (Wanted.free rfl) (V.extract rfl rfl rfl) rfl ?_
   refine RL.eff (Wanted.free rfl) (E.storeWhole rfl rfl rfl (by rfl) sz26 pickX pv_one (by rfl)) rfl ?_
   rintro _ _ rfl
   refine RL.val (Wanted.free rfl) (V.assign rfl rfl) rfl ?_
   refine RL.nil ?_
   refine SG.retE (Ret.r2 Try.func31 rfl (.agg rfl ag26 pickX rfl rfl) (.tmp rfl)) ?_ ⟨_, _, _, rfl, rfl⟩
   exact entX
  ·
   refine SG.region ?_
   refine RL.val (Wanted.free rfl) (V.fieldAddr rfl rfl fo50_0) rfl ?_
   refine RL.val (Wanted.free rfl) (V.load rfl on3 rfl pickX rfl) rfl ?_
   refine RL.nil ?_
   try refine SG.ent (Pick.rd (T := RPeer) (cs := pv p (.slice ka kn kc) (.slice wa wn wc) (.slice xa xn xc)) (y := p) memX) ?_
   refine SG.weaken (rest ⟨(ka, kn, kc), (wa, wn, wc), (xa, xn, xc)⟩ trivial) ?_ ?_
   ·
    repeat (first | exact EnvLe.nil _ | refine EnvLe.cons rfl ?_)
   ·
    rw [hq]
    try dsimp only
    exact entX

set_option maxRecDepth 100000 in
set_option maxHeartbeats 1000000 in
theorem rhandle_k2 {κ : World} {L : List Assn} {us ms : List Value} {p : Peer} {m : Msg} (hm : Rd RPeer us p ∈ L) (hmm : Rd RMsg ms m ∈ L) (ho : POk p) (hmo : MOk m) (hk : m.kind = 2) (h1 : m.to = p.id) (hf0 : 0 ≤ m.frm) (hf1 : m.frm < p.nodes) (hf2 : m.frm ≠ p.id) :
    Ctr Try.prog 31 #[.agg us.toArray, .agg ms.toArray] κ L (fun v M => ∃ us' a c, v = .tuple #[.agg us'.toArray, .slice a (handle p m).2.length c] ∧ M = Rd RPeer us' (handle p m).1 :: Sl RMsg a (handle p m).2.length c (handle p m).2 :: L) := by
 refine Ctr.enter (vs := [.agg us.toArray, .agg ms.toArray]) (m := 115) Try.func31 rfl rfl rfl ?_
 refine SG.openPeer (Pick.rd hm) fun ka kn kc wa wn wc xa xn xc hus => ?_
 subst hus
 refine SG.openMsg (us := ms) (m := m) (Pick.rd (T := RMsg) memX) fun sa sn sc hms => ?_
 subst hms
 obtain ⟨n1, n5, i0, i1, t0, t1, ll, lv, lm, vn, mn, c0, c1, mm, dd⟩ := id ho
 have hm0 := hmo.t0
 have hm1 := hmo.t1
 refine SG.seq ?_
 refine SG.region ?_
 refine RL.eff (Wanted.free rfl) (E.box _ rfl rfl rfl) rfl ?_
 rintro _ _ ⟨b2, rfl, rfl⟩
 refine RL.eff (Wanted.free rfl) (E.box _ rfl rfl rfl) rfl ?_
 rintro _ _ ⟨b3, rfl, rfl⟩
 refine RL.eff (Wanted.free rfl) (E.alloc rfl ze26) rfl ?_
 rintro _ _ ⟨b4, rfl, rfl⟩
 refine RL.val (Wanted.free rfl) (V.assign rfl rfl) rfl ?_
 refine RL.nil ?_
 refine SG.seq ?_
 refine SG.seq ?_
 refine SG.region ?_
 refine RL.val (Wanted.free rfl) (V.fieldAddr rfl rfl fo50_2) rfl ?_
 refine RL.val (Wanted.free rfl) (V.load rfl on3 rfl pickX rfl) rfl ?_
 refine RL.val (Wanted.free rfl) (V.fieldAddr rfl rfl fo26_0) rfl ?_
 refine RL.val (Wanted.free rfl) (V.load rfl on3 rfl pickX rfl) rfl ?_
 refine RL.cmpF (Wanted.free rfl) (V.bin rfl rfl rfl B.neq) rfl (by omega) ?_
 refine RL.val (Wanted.free rfl) (V.move rfl rfl) rfl ?_
 refine RL.val (Wanted.yes rfl rfl rfl rfl) (V.fieldAddr rfl rfl fo50_1) rfl ?_
 refine RL.val (Wanted.yes rfl rfl rfl rfl) (V.load rfl on3 rfl pickX rfl) rfl ?_
 refine RL.cmpF (Wanted.yes rfl rfl rfl rfl) (V.bin rfl rfl rfl B.lss) rfl (by omega) ?_
 refine RL.val (Wanted.free rfl) (V.pick_false rfl rfl rfl) rfl ?_
 refine RL.val (Wanted.free rfl) (V.move rfl rfl) rfl ?_
 refine RL.val (Wanted.yes rfl rfl rfl rfl) (V.fieldAddr rfl rfl fo50_1) rfl ?_
 refine RL.val (Wanted.yes rfl rfl rfl rfl) (V.load rfl on3 rfl pickX rfl) rfl ?_
 refine RL.val (Wanted.yes rfl rfl rfl rfl) (V.fieldAddr rfl rfl fo26_1) rfl ?_
 refine RL.val (Wanted.yes rfl rfl rfl rfl) (V.load rfl on3 rfl pickX rfl) rfl ?_
 refine RL.cmpF (Wanted.yes rfl rfl rfl rfl) (V.bin rfl rfl rfl B.geq) rfl (by omega) ?_
 refine RL.val (Wanted.free rfl) (V.pick_false rfl rfl rfl) rfl ?_
 refine RL.val (Wanted.free rfl) (V.move rfl rfl) rfl ?_
 refine RL.val (Wanted.yes rfl rfl rfl rfl) (V.fieldAddr rfl rfl fo50_1) rfl ?_
 refine RL.val (Wanted.yes rfl rfl rfl rfl) (V.load rfl on3 rfl pickX rfl) rfl ?_
 refine RL.val (Wanted.yes rfl rfl rfl rfl) (V.fieldAddr rfl rfl fo26_0) rfl ?_
 refine RL.val (Wanted.yes rfl rfl rfl rfl) (V.load rfl on3 rfl pickX rfl) rfl ?_
 refine RL.cmpF (Wanted.yes rfl rfl rfl rfl) (V.bin rfl rfl rfl B.eql) rfl (by omega) ?_
 refine RL.val (Wanted.free rfl) (V.pick_false rfl rfl rfl) rfl ?_
 refine RL.val (Wanted.free rfl) (V.move rfl rfl) rfl ?_
 refine RL.val (Wanted.yes rfl rfl rfl rfl) (V.fieldAddr rfl rfl fo50_0) rfl ?_
 refine RL.val (Wanted.yes rfl rfl rfl rfl) (V.load rfl on3 rfl pickX rfl) rfl ?_
 refine RL.cmpF (Wanted.yes rfl rfl rfl rfl) (V.bin rfl rfl rfl B.lss) rfl (by omega) ?_
 refine RL.val (Wanted.free rfl) (V.pick_false rfl rfl rfl) rfl ?_
 refine RL.val (Wanted.free rfl) (V.move rfl rfl) rfl ?_
 refine RL.val (Wanted.yes rfl rfl rfl rfl) (V.fieldAddr rfl rfl fo50_0) rfl ?_
 refine RL.val (Wanted.yes rfl rfl rfl rfl) (V.load rfl on3 rfl pickX rfl) rfl ?_
 refine RL.cmpF (Wanted.yes rfl rfl rfl rfl) (V.bin rfl rfl rfl B.gtr) rfl (by omega) ?_
 refine RL.val (Wanted.free rfl) (V.pick_false rfl rfl rfl) rfl ?_
 refine RL.nil ?_
 refine SG.cond_false rfl ?_
 refine SG.skip ?_
 refine SG.seq ?_
 refine SG.seq ?_
 refine SG.region ?_
 refine RL.val (Wanted.free rfl) (V.fieldAddr rfl rfl fo50_3) rfl ?_
 refine RL.val (Wanted.free rfl) (V.load rfl on3 rfl pickX rfl) rfl ?_
 refine RL.val (Wanted.free rfl) (V.fieldAddr rfl rfl fo26_2) rfl ?_
 refine RL.val (Wanted.free rfl) (V.load rfl on3 rfl pickX rfl) rfl ?_
 refine RL.cmp (Wanted.free rfl) (V.bin rfl rfl rfl B.gtr) rfl (fun h32 => ?_) (fun h32 => ?_)
 ·
  have hq := raised_yes (p := p) (m := m) (by omega)
  refine RL.nil ?_
  refine SG.cond_true rfl ?_
  refine SG.region ?_
  refine RL.val (Wanted.free rfl) (V.loadAgg (us := pv p (.slice ka kn kc) (.slice wa wn wc) (.slice xa xn xc)) rfl ag26 rfl pickX rfl rfl) rfl ?_
  refine RL.val (Wanted.free rfl) (V.fieldAddr rfl rfl fo50_3) rfl ?_
  refine RL.val (Wanted.free rfl) (V.load rfl on3 rfl pickX rfl) rfl ?_
  refine RL.eff (Wanted.free rfl) (E.call rfl go74 rfl (rdown_ok (p := p) (T := m.term) memX)) rfl ?_
  rintro _ _ ⟨u49, rfl, rfl⟩
  refine RL.openPeer (us := u49) (Pick.rd (T := RPeer) memX) fun ja jn jc ia im ic oa on oc hus => ?_
  subst hus
  refine RL.eff (Wanted.free rfl) (E.storeWhole rfl rfl rfl (by rfl) sz26 pickX pv_one (by rfl)) rfl ?_
  rintro _ _ rfl
  refine RL.nil ?_
  refine SG.seq ?_
  refine SG.seq ?_
  refine SG.join (ι := Tri × Tri × Tri) (fun ⟨⟨qa, qn, qc⟩, ⟨ga, gn, gc⟩, ⟨ha, hn, hc⟩⟩ => [(2, ptr b2 0), (3, ptr b3 0), (4, ptr b4 0), (5, .slice none 0 0), (51, vI m.kind)]) (fun ⟨⟨qa, qn, qc⟩, ⟨ga, gn, gc⟩, ⟨ha, hn, hc⟩⟩ => Blk b2 26 (pv (Rp.raised p m) (.slice qa qn qc) (.slice ga gn gc) (.slice ha hn hc)) :: Sl RSlot qa qn qc (Rp.raised p m).log :: Sl RB ga gn gc (Rp.raised p m).votes :: Sl RI ha hn hc (Rp.raised p m).mtch :: Rd RPeer (pv (Rp.raised p m) (.slice qa qn qc) (.slice ga gn gc) (.slice ha hn hc)) (Rp.raised p m) :: Blk b3 50 (mv m (.slice sa sn sc)) :: Blk b4 26 [.int .i64 0, .int .i64 0, .int .i64 0, .int .i64 0, .int .i64 0, .int .i64 0, .slice none 0 0, .slice none 0 0, .slice none 0 0] :: L) (fun ⟨⟨qa, qn, qc⟩, ⟨ga, gn, gc⟩, ⟨ha, hn, hc⟩⟩ => True) ?_ (fun rest => ?_)
  ·
   rintro ⟨⟨qa, qn, qc⟩, ⟨ga, gn, gc⟩, ⟨ha, hn, hc⟩⟩ _
   try dsimp only
   have hh : handle p m = (if m.term < (Rp.raised p m).term ∨ m.yes = false then (Rp.raised p m) else votedP (Rp.raised p m) m, []) := by rw [handle, if_neg (by unfold strange; omega), handleQ]; simp [hk]
   have hrt : m.term ≤ (Rp.raised p m).term := by unfold Rp.raised; split; (· exact Int.le_refl _); (· omega)
   rw [hh]
   obtain ⟨hqi, hqn⟩ := raised_id p m
   obtain ⟨qn1, qn5, qi0, qi1, qt0, qt1, qll, qlv, qlm, qvn, qmn, qc0, qc1, qmm, qdd⟩ := raised_ok ho hmo
   generalize Rp.raised p m = q at *
   have hif : (if m.term < q.term ∨ m.yes = false then q else votedP q m) = (if m.term ≠ q.term ∨ m.yes = false then q else votedP q m) := by
    by_cases e : m.term = q.term
    ·
     simp [e]
    ·
     rw [if_pos (.inl (by omega)), if_pos (.inl e)]
   rw [hif]
   refine SG.ent (Sl.nil (T := RMsg)) ?_
   refine SG.block ?_
   refine SG.seq ?_
   refine SG.region ?_
   refine RL.cmpF (Wanted.free rfl) (V.bin rfl rfl rfl B.eql) rfl (by omega) ?_
   refine RL.val (Wanted.free rfl) (V.assign rfl rfl) rfl ?_
   refine RL.nil ?_
   refine SG.cond_false rfl ?_
   refine SG.seq ?_
   refine SG.region ?_
   refine RL.cmpT (Wanted.free rfl) (V.bin rfl rfl rfl B.eql) rfl (by omega) ?_
   refine RL.val (Wanted.free rfl) (V.assign rfl rfl) rfl ?_
   refine RL.nil ?_
   refine SG.cond_true rfl ?_
   refine SG.seq ?_
   refine SG.region ?_
   refine RL.val (Wanted.free rfl) (V.loadAgg (us := pv q (.slice qa qn qc) (.slice ga gn gc) (.slice ha hn hc)) rfl ag26 rfl pickX rfl rfl) rfl ?_
   refine RL.val (Wanted.free rfl) (V.loadAgg (us := mv m (.slice sa sn sc)) rfl ag50 rfl pickX rfl rfl) rfl ?_
   refine RL.eff (Wanted.free rfl) (E.call rfl go76 rfl (rvoted_ok (p := q) (m := m) memX memX (by omega) (by omega) (by omega) (by omega) (by omega) (by omega) (fun e => by have := qvn e; omega))) rfl ?_
   rintro _ _ ⟨u63, rfl, rfl⟩
   refine RL.openPeer (us := u63) (Pick.rd (T := RPeer) memX) fun ja jn jc ia im ic oa on oc hus => ?_
   subst hus
   refine RL.eff (Wanted.free rfl) (E.storeWhole rfl rfl rfl (by rfl) sz26 pickX pv_one (by rfl)) rfl ?_
   rintro _ _ rfl
   refine RL.val (Wanted.free rfl) (V.assign rfl rfl) rfl ?_
   refine RL.nil ?_
   refine SG.retE (Ret.r2 Try.func31 rfl (.agg rfl ag26 pickX rfl rfl) (.tmp rfl)) ?_ ⟨_, _, _, rfl, rfl⟩
   exact entX
  ·
   refine SG.region ?_
   refine RL.val (Wanted.free rfl) (V.fieldAddr rfl rfl fo50_0) rfl ?_
   refine RL.val (Wanted.free rfl) (V.load rfl on3 rfl pickX rfl) rfl ?_
   refine RL.nil ?_
   try refine SG.ent (Pick.rd (T := RPeer) (cs := pv p (.slice ka kn kc) (.slice wa wn wc) (.slice xa xn xc)) (y := p) memX) ?_
   refine SG.weaken (rest ⟨(ja, jn, jc), (ia, im, ic), (oa, on, oc)⟩ trivial) ?_ ?_
   ·
    repeat (first | exact EnvLe.nil _ | refine EnvLe.cons rfl ?_)
   ·
    rw [hq]
    try dsimp only
    exact entX
 ·
  have hq := raised_no (p := p) (m := m) (by omega)
  refine RL.nil ?_
  refine SG.cond_false rfl ?_
  refine SG.skip ?_
  refine SG.seq ?_
  refine SG.seq ?_
  refine SG.join (ι := Tri × Tri × Tri) (fun ⟨⟨qa, qn, qc⟩, ⟨ga, gn, gc⟩, ⟨ha, hn, hc⟩⟩ => [(2, ptr b2 0), (3, ptr b3 0), (4, ptr b4 0), (5, .slice none 0 0), (51, vI m.kind)]) (fun ⟨⟨qa, qn, qc⟩, ⟨ga, gn, gc⟩, ⟨ha, hn, hc⟩⟩ => Blk b2 26 (pv (Rp.raised p m) (.slice qa qn qc) (.slice ga gn gc) (.slice ha hn hc)) :: Sl RSlot qa qn qc (Rp.raised p m).log :: Sl RB ga gn gc (Rp.raised p m).votes :: Sl RI ha hn hc (Rp.raised p m).mtch :: Rd RPeer (pv (Rp.raised p m) (.slice qa qn qc) (.slice ga gn gc) (.slice ha hn hc)) (Rp.raised p m) :: Blk b3 50 (mv m (.slice sa sn sc)) :: Blk b4 26 [.int .i64 0, .int .i64 0, .int .i64 0, .int .i64 0, .int .i64 0, .int .i64 0, .slice none 0 0, .slice none 0 0, .slice none 0 0] :: L) (fun ⟨⟨qa, qn, qc⟩, ⟨ga, gn, gc⟩, ⟨ha, hn, hc⟩⟩ => True) ?_ (fun rest => ?_)
  ·
   rintro ⟨⟨qa, qn, qc⟩, ⟨ga, gn, gc⟩, ⟨ha, hn, hc⟩⟩ _
   try dsimp only
   have hh : handle p m = (if m.term < (Rp.raised p m).term ∨ m.yes = false then (Rp.raised p m) else votedP (Rp.raised p m) m, []) := by rw [handle, if_neg (by unfold strange; omega), handleQ]; simp [hk]
   have hrt : m.term ≤ (Rp.raised p m).term := by unfold Rp.raised; split; (· exact Int.le_refl _); (· omega)
   rw [hh]
   obtain ⟨hqi, hqn⟩ := raised_id p m
   obtain ⟨qn1, qn5, qi0, qi1, qt0, qt1, qll, qlv, qlm, qvn, qmn, qc0, qc1, qmm, qdd⟩ := raised_ok ho hmo
   generalize Rp.raised p m = q at *
   have hif : (if m.term < q.term ∨ m.yes = false then q else votedP q m) = (if m.term ≠ q.term ∨ m.yes = false then q else votedP q m) := by
    by_cases e : m.term = q.term
    ·
     simp [e]
    ·
     rw [if_pos (.inl (by omega)), if_pos (.inl e)]
   rw [hif]
   refine SG.ent (Sl.nil (T := RMsg)) ?_
   refine SG.block ?_
   refine SG.seq ?_
   refine SG.region ?_
   refine RL.cmpF (Wanted.free rfl) (V.bin rfl rfl rfl B.eql) rfl (by omega) ?_
   refine RL.val (Wanted.free rfl) (V.assign rfl rfl) rfl ?_
   refine RL.nil ?_
   refine SG.cond_false rfl ?_
   refine SG.seq ?_
   refine SG.region ?_
   refine RL.cmpT (Wanted.free rfl) (V.bin rfl rfl rfl B.eql) rfl (by omega) ?_
   refine RL.val (Wanted.free rfl) (V.assign rfl rfl) rfl ?_
   refine RL.nil ?_
   refine SG.cond_true rfl ?_
   refine SG.seq ?_
   refine SG.region ?_
   refine RL.val (Wanted.free rfl) (V.loadAgg (us := pv q (.slice qa qn qc) (.slice ga gn gc) (.slice ha hn hc)) rfl ag26 rfl pickX rfl rfl) rfl ?_
   refine RL.val (Wanted.free rfl) (V.loadAgg (us := mv m (.slice sa sn sc)) rfl ag50 rfl pickX rfl rfl) rfl ?_
   refine RL.eff (Wanted.free rfl) (E.call rfl go76 rfl (rvoted_ok (p := q) (m := m) memX memX (by omega) (by omega) (by omega) (by omega) (by omega) (by omega) (fun e => by have := qvn e; omega))) rfl ?_
   rintro _ _ ⟨u63, rfl, rfl⟩
   refine RL.openPeer (us := u63) (Pick.rd (T := RPeer) memX) fun ja jn jc ia im ic oa on oc hus => ?_
   subst hus
   refine RL.eff (Wanted.free rfl) (E.storeWhole rfl rfl rfl (by rfl) sz26 pickX pv_one (by rfl)) rfl ?_
   rintro _ _ rfl
   refine RL.val (Wanted.free rfl) (V.assign rfl rfl) rfl ?_
   refine RL.nil ?_
   refine SG.retE (Ret.r2 Try.func31 rfl (.agg rfl ag26 pickX rfl rfl) (.tmp rfl)) ?_ ⟨_, _, _, rfl, rfl⟩
   exact entX
  ·
   refine SG.region ?_
   refine RL.val (Wanted.free rfl) (V.fieldAddr rfl rfl fo50_0) rfl ?_
   refine RL.val (Wanted.free rfl) (V.load rfl on3 rfl pickX rfl) rfl ?_
   refine RL.nil ?_
   try refine SG.ent (Pick.rd (T := RPeer) (cs := pv p (.slice ka kn kc) (.slice wa wn wc) (.slice xa xn xc)) (y := p) memX) ?_
   refine SG.weaken (rest ⟨(ka, kn, kc), (wa, wn, wc), (xa, xn, xc)⟩ trivial) ?_ ?_
   ·
    repeat (first | exact EnvLe.nil _ | refine EnvLe.cons rfl ?_)
   ·
    rw [hq]
    try dsimp only
    exact entX

set_option maxRecDepth 100000 in
set_option maxHeartbeats 1000000 in
theorem rhandle_k3 {κ : World} {L : List Assn} {us ms : List Value} {p : Peer} {m : Msg} (hm : Rd RPeer us p ∈ L) (hmm : Rd RMsg ms m ∈ L) (ho : POk p) (hmo : MOk m) (hk : m.kind = 3) (h1 : m.to = p.id) (hf0 : 0 ≤ m.frm) (hf1 : m.frm < p.nodes) (hf2 : m.frm ≠ p.id) :
    Ctr Try.prog 31 #[.agg us.toArray, .agg ms.toArray] κ L (fun v M => ∃ us' a c, v = .tuple #[.agg us'.toArray, .slice a (handle p m).2.length c] ∧ M = Rd RPeer us' (handle p m).1 :: Sl RMsg a (handle p m).2.length c (handle p m).2 :: L) := by
 refine Ctr.enter (vs := [.agg us.toArray, .agg ms.toArray]) (m := 115) Try.func31 rfl rfl rfl ?_
 refine SG.openPeer (Pick.rd hm) fun ka kn kc wa wn wc xa xn xc hus => ?_
 subst hus
 refine SG.openMsg (us := ms) (m := m) (Pick.rd (T := RMsg) memX) fun sa sn sc hms => ?_
 subst hms
 obtain ⟨n1, n5, i0, i1, t0, t1, ll, lv, lm, vn, mn, c0, c1, mm, dd⟩ := id ho
 have hm0 := hmo.t0
 have hm1 := hmo.t1
 refine SG.seq ?_
 refine SG.region ?_
 refine RL.eff (Wanted.free rfl) (E.box _ rfl rfl rfl) rfl ?_
 rintro _ _ ⟨b2, rfl, rfl⟩
 refine RL.eff (Wanted.free rfl) (E.box _ rfl rfl rfl) rfl ?_
 rintro _ _ ⟨b3, rfl, rfl⟩
 refine RL.eff (Wanted.free rfl) (E.alloc rfl ze26) rfl ?_
 rintro _ _ ⟨b4, rfl, rfl⟩
 refine RL.val (Wanted.free rfl) (V.assign rfl rfl) rfl ?_
 refine RL.nil ?_
 refine SG.seq ?_
 refine SG.seq ?_
 refine SG.region ?_
 refine RL.val (Wanted.free rfl) (V.fieldAddr rfl rfl fo50_2) rfl ?_
 refine RL.val (Wanted.free rfl) (V.load rfl on3 rfl pickX rfl) rfl ?_
 refine RL.val (Wanted.free rfl) (V.fieldAddr rfl rfl fo26_0) rfl ?_
 refine RL.val (Wanted.free rfl) (V.load rfl on3 rfl pickX rfl) rfl ?_
 refine RL.cmpF (Wanted.free rfl) (V.bin rfl rfl rfl B.neq) rfl (by omega) ?_
 refine RL.val (Wanted.free rfl) (V.move rfl rfl) rfl ?_
 refine RL.val (Wanted.yes rfl rfl rfl rfl) (V.fieldAddr rfl rfl fo50_1) rfl ?_
 refine RL.val (Wanted.yes rfl rfl rfl rfl) (V.load rfl on3 rfl pickX rfl) rfl ?_
 refine RL.cmpF (Wanted.yes rfl rfl rfl rfl) (V.bin rfl rfl rfl B.lss) rfl (by omega) ?_
 refine RL.val (Wanted.free rfl) (V.pick_false rfl rfl rfl) rfl ?_
 refine RL.val (Wanted.free rfl) (V.move rfl rfl) rfl ?_
 refine RL.val (Wanted.yes rfl rfl rfl rfl) (V.fieldAddr rfl rfl fo50_1) rfl ?_
 refine RL.val (Wanted.yes rfl rfl rfl rfl) (V.load rfl on3 rfl pickX rfl) rfl ?_
 refine RL.val (Wanted.yes rfl rfl rfl rfl) (V.fieldAddr rfl rfl fo26_1) rfl ?_
 refine RL.val (Wanted.yes rfl rfl rfl rfl) (V.load rfl on3 rfl pickX rfl) rfl ?_
 refine RL.cmpF (Wanted.yes rfl rfl rfl rfl) (V.bin rfl rfl rfl B.geq) rfl (by omega) ?_
 refine RL.val (Wanted.free rfl) (V.pick_false rfl rfl rfl) rfl ?_
 refine RL.val (Wanted.free rfl) (V.move rfl rfl) rfl ?_
 refine RL.val (Wanted.yes rfl rfl rfl rfl) (V.fieldAddr rfl rfl fo50_1) rfl ?_
 refine RL.val (Wanted.yes rfl rfl rfl rfl) (V.load rfl on3 rfl pickX rfl) rfl ?_
 refine RL.val (Wanted.yes rfl rfl rfl rfl) (V.fieldAddr rfl rfl fo26_0) rfl ?_
 refine RL.val (Wanted.yes rfl rfl rfl rfl) (V.load rfl on3 rfl pickX rfl) rfl ?_
 refine RL.cmpF (Wanted.yes rfl rfl rfl rfl) (V.bin rfl rfl rfl B.eql) rfl (by omega) ?_
 refine RL.val (Wanted.free rfl) (V.pick_false rfl rfl rfl) rfl ?_
 refine RL.val (Wanted.free rfl) (V.move rfl rfl) rfl ?_
 refine RL.val (Wanted.yes rfl rfl rfl rfl) (V.fieldAddr rfl rfl fo50_0) rfl ?_
 refine RL.val (Wanted.yes rfl rfl rfl rfl) (V.load rfl on3 rfl pickX rfl) rfl ?_
 refine RL.cmpF (Wanted.yes rfl rfl rfl rfl) (V.bin rfl rfl rfl B.lss) rfl (by omega) ?_
 refine RL.val (Wanted.free rfl) (V.pick_false rfl rfl rfl) rfl ?_
 refine RL.val (Wanted.free rfl) (V.move rfl rfl) rfl ?_
 refine RL.val (Wanted.yes rfl rfl rfl rfl) (V.fieldAddr rfl rfl fo50_0) rfl ?_
 refine RL.val (Wanted.yes rfl rfl rfl rfl) (V.load rfl on3 rfl pickX rfl) rfl ?_
 refine RL.cmpF (Wanted.yes rfl rfl rfl rfl) (V.bin rfl rfl rfl B.gtr) rfl (by omega) ?_
 refine RL.val (Wanted.free rfl) (V.pick_false rfl rfl rfl) rfl ?_
 refine RL.nil ?_
 refine SG.cond_false rfl ?_
 refine SG.skip ?_
 refine SG.seq ?_
 refine SG.seq ?_
 refine SG.region ?_
 refine RL.val (Wanted.free rfl) (V.fieldAddr rfl rfl fo50_3) rfl ?_
 refine RL.val (Wanted.free rfl) (V.load rfl on3 rfl pickX rfl) rfl ?_
 refine RL.val (Wanted.free rfl) (V.fieldAddr rfl rfl fo26_2) rfl ?_
 refine RL.val (Wanted.free rfl) (V.load rfl on3 rfl pickX rfl) rfl ?_
 refine RL.cmp (Wanted.free rfl) (V.bin rfl rfl rfl B.gtr) rfl (fun h32 => ?_) (fun h32 => ?_)
 ·
  have hq := raised_yes (p := p) (m := m) (by omega)
  refine RL.nil ?_
  refine SG.cond_true rfl ?_
  refine SG.region ?_
  refine RL.val (Wanted.free rfl) (V.loadAgg (us := pv p (.slice ka kn kc) (.slice wa wn wc) (.slice xa xn xc)) rfl ag26 rfl pickX rfl rfl) rfl ?_
  refine RL.val (Wanted.free rfl) (V.fieldAddr rfl rfl fo50_3) rfl ?_
  refine RL.val (Wanted.free rfl) (V.load rfl on3 rfl pickX rfl) rfl ?_
  refine RL.eff (Wanted.free rfl) (E.call rfl go74 rfl (rdown_ok (p := p) (T := m.term) memX)) rfl ?_
  rintro _ _ ⟨u49, rfl, rfl⟩
  refine RL.openPeer (us := u49) (Pick.rd (T := RPeer) memX) fun ja jn jc ia im ic oa on oc hus => ?_
  subst hus
  refine RL.eff (Wanted.free rfl) (E.storeWhole rfl rfl rfl (by rfl) sz26 pickX pv_one (by rfl)) rfl ?_
  rintro _ _ rfl
  refine RL.nil ?_
  refine SG.seq ?_
  refine SG.seq ?_
  refine SG.join (ι := Tri × Tri × Tri) (fun ⟨⟨qa, qn, qc⟩, ⟨ga, gn, gc⟩, ⟨ha, hn, hc⟩⟩ => [(2, ptr b2 0), (3, ptr b3 0), (4, ptr b4 0), (5, .slice none 0 0), (51, vI m.kind)]) (fun ⟨⟨qa, qn, qc⟩, ⟨ga, gn, gc⟩, ⟨ha, hn, hc⟩⟩ => Blk b2 26 (pv (Rp.raised p m) (.slice qa qn qc) (.slice ga gn gc) (.slice ha hn hc)) :: Sl RSlot qa qn qc (Rp.raised p m).log :: Sl RB ga gn gc (Rp.raised p m).votes :: Sl RI ha hn hc (Rp.raised p m).mtch :: Rd RPeer (pv (Rp.raised p m) (.slice qa qn qc) (.slice ga gn gc) (.slice ha hn hc)) (Rp.raised p m) :: Blk b3 50 (mv m (.slice sa sn sc)) :: Blk b4 26 [.int .i64 0, .int .i64 0, .int .i64 0, .int .i64 0, .int .i64 0, .int .i64 0, .slice none 0 0, .slice none 0 0, .slice none 0 0] :: L) (fun ⟨⟨qa, qn, qc⟩, ⟨ga, gn, gc⟩, ⟨ha, hn, hc⟩⟩ => True) ?_ (fun rest => ?_)
  ·
   rintro ⟨⟨qa, qn, qc⟩, ⟨ga, gn, gc⟩, ⟨ha, hn, hc⟩⟩ _
   try dsimp only
   have hh : handle p m = Rp.store (Rp.raised p m) m := by rw [handle, if_neg (by unfold strange; omega), handleQ]; simp [hk]
   have hrt : m.term ≤ (Rp.raised p m).term := by unfold Rp.raised; split; (· exact Int.le_refl _); (· omega)
   rw [hh]
   obtain ⟨hqi, hqn⟩ := raised_id p m
   obtain ⟨qn1, qn5, qi0, qi1, qt0, qt1, qll, qlv, qlm, qvn, qmn, qc0, qc1, qmm, qdd⟩ := raised_ok ho hmo
   generalize Rp.raised p m = q at *
   rw [store_one q m]
   refine SG.block ?_
   refine SG.seq ?_
   refine SG.region ?_
   refine RL.cmpF (Wanted.free rfl) (V.bin rfl rfl rfl B.eql) rfl (by omega) ?_
   refine RL.val (Wanted.free rfl) (V.assign rfl rfl) rfl ?_
   refine RL.nil ?_
   refine SG.cond_false rfl ?_
   refine SG.seq ?_
   refine SG.region ?_
   refine RL.cmpF (Wanted.free rfl) (V.bin rfl rfl rfl B.eql) rfl (by omega) ?_
   refine RL.val (Wanted.free rfl) (V.assign rfl rfl) rfl ?_
   refine RL.nil ?_
   refine SG.cond_false rfl ?_
   refine SG.seq ?_
   refine SG.region ?_
   refine RL.cmpT (Wanted.free rfl) (V.bin rfl rfl rfl B.eql) rfl (by omega) ?_
   refine RL.val (Wanted.free rfl) (V.assign rfl rfl) rfl ?_
   refine RL.nil ?_
   refine SG.cond_true rfl ?_
   refine SG.seq ?_
   refine SG.region ?_
   refine RL.val (Wanted.free rfl) (V.loadAgg (us := pv q (.slice qa qn qc) (.slice ga gn gc) (.slice ha hn hc)) rfl ag26 rfl pickX rfl rfl) rfl ?_
   refine RL.val (Wanted.free rfl) (V.loadAgg (us := mv m (.slice sa sn sc)) rfl ag50 rfl pickX rfl rfl) rfl ?_
   refine RL.eff (Wanted.free rfl) (E.call rfl go77 rfl (rstore_ok (p := q) (m := m) memX memX (by omega) hmo.x0 hmo.x1 hmo.s1)) rfl ?_
   rintro _ _ ⟨u68, a68, c68, rfl, rfl⟩
   refine RL.openPeer (us := u68) (Pick.rd (T := RPeer) memX) fun ja jn jc ia im ic oa on oc hus => ?_
   subst hus
   refine RL.val (Wanted.free rfl) (V.extract rfl rfl rfl) rfl ?_
   refine RL.val (Wanted.free rfl) (V.extract rfl rfl rfl) rfl ?_
   refine RL.eff (Wanted.free rfl) (E.storeWhole rfl rfl rfl (by rfl) sz26 pickX pv_one (by rfl)) rfl ?_
   rintro _ _ rfl
   refine RL.val (Wanted.free rfl) (V.assign rfl rfl) rfl ?_
   refine RL.nil ?_
   refine SG.retE (Ret.r2 Try.func31 rfl (.agg rfl ag26 pickX rfl rfl) (.tmp rfl)) ?_ ⟨_, _, _, rfl, rfl⟩
   exact entX
  ·
   refine SG.region ?_
   refine RL.val (Wanted.free rfl) (V.fieldAddr rfl rfl fo50_0) rfl ?_
   refine RL.val (Wanted.free rfl) (V.load rfl on3 rfl pickX rfl) rfl ?_
   refine RL.nil ?_
   try refine SG.ent (Pick.rd (T := RPeer) (cs := pv p (.slice ka kn kc) (.slice wa wn wc) (.slice xa xn xc)) (y := p) memX) ?_
   refine SG.weaken (rest ⟨(ja, jn, jc), (ia, im, ic), (oa, on, oc)⟩ trivial) ?_ ?_
   ·
    repeat (first | exact EnvLe.nil _ | refine EnvLe.cons rfl ?_)
   ·
    rw [hq]
    try dsimp only
    exact entX
 ·
  have hq := raised_no (p := p) (m := m) (by omega)
  refine RL.nil ?_
  refine SG.cond_false rfl ?_
  refine SG.skip ?_
  refine SG.seq ?_
  refine SG.seq ?_
  refine SG.join (ι := Tri × Tri × Tri) (fun ⟨⟨qa, qn, qc⟩, ⟨ga, gn, gc⟩, ⟨ha, hn, hc⟩⟩ => [(2, ptr b2 0), (3, ptr b3 0), (4, ptr b4 0), (5, .slice none 0 0), (51, vI m.kind)]) (fun ⟨⟨qa, qn, qc⟩, ⟨ga, gn, gc⟩, ⟨ha, hn, hc⟩⟩ => Blk b2 26 (pv (Rp.raised p m) (.slice qa qn qc) (.slice ga gn gc) (.slice ha hn hc)) :: Sl RSlot qa qn qc (Rp.raised p m).log :: Sl RB ga gn gc (Rp.raised p m).votes :: Sl RI ha hn hc (Rp.raised p m).mtch :: Rd RPeer (pv (Rp.raised p m) (.slice qa qn qc) (.slice ga gn gc) (.slice ha hn hc)) (Rp.raised p m) :: Blk b3 50 (mv m (.slice sa sn sc)) :: Blk b4 26 [.int .i64 0, .int .i64 0, .int .i64 0, .int .i64 0, .int .i64 0, .int .i64 0, .slice none 0 0, .slice none 0 0, .slice none 0 0] :: L) (fun ⟨⟨qa, qn, qc⟩, ⟨ga, gn, gc⟩, ⟨ha, hn, hc⟩⟩ => True) ?_ (fun rest => ?_)
  ·
   rintro ⟨⟨qa, qn, qc⟩, ⟨ga, gn, gc⟩, ⟨ha, hn, hc⟩⟩ _
   try dsimp only
   have hh : handle p m = Rp.store (Rp.raised p m) m := by rw [handle, if_neg (by unfold strange; omega), handleQ]; simp [hk]
   have hrt : m.term ≤ (Rp.raised p m).term := by unfold Rp.raised; split; (· exact Int.le_refl _); (· omega)
   rw [hh]
   obtain ⟨hqi, hqn⟩ := raised_id p m
   obtain ⟨qn1, qn5, qi0, qi1, qt0, qt1, qll, qlv, qlm, qvn, qmn, qc0, qc1, qmm, qdd⟩ := raised_ok ho hmo
   generalize Rp.raised p m = q at *
   rw [store_one q m]
   refine SG.block ?_
   refine SG.seq ?_
   refine SG.region ?_
   refine RL.cmpF (Wanted.free rfl) (V.bin rfl rfl rfl B.eql) rfl (by omega) ?_
   refine RL.val (Wanted.free rfl) (V.assign rfl rfl) rfl ?_
   refine RL.nil ?_
   refine SG.cond_false rfl ?_
   refine SG.seq ?_
   refine SG.region ?_
   refine RL.cmpF (Wanted.free rfl) (V.bin rfl rfl rfl B.eql) rfl (by omega) ?_
   refine RL.val (Wanted.free rfl) (V.assign rfl rfl) rfl ?_
   refine RL.nil ?_
   refine SG.cond_false rfl ?_
   refine SG.seq ?_
   refine SG.region ?_
   refine RL.cmpT (Wanted.free rfl) (V.bin rfl rfl rfl B.eql) rfl (by omega) ?_
   refine RL.val (Wanted.free rfl) (V.assign rfl rfl) rfl ?_
   refine RL.nil ?_
   refine SG.cond_true rfl ?_
   refine SG.seq ?_
   refine SG.region ?_
   refine RL.val (Wanted.free rfl) (V.loadAgg (us := pv q (.slice qa qn qc) (.slice ga gn gc) (.slice ha hn hc)) rfl ag26 rfl pickX rfl rfl) rfl ?_
   refine RL.val (Wanted.free rfl) (V.loadAgg (us := mv m (.slice sa sn sc)) rfl ag50 rfl pickX rfl rfl) rfl ?_
   refine RL.eff (Wanted.free rfl) (E.call rfl go77 rfl (rstore_ok (p := q) (m := m) memX memX (by omega) hmo.x0 hmo.x1 hmo.s1)) rfl ?_
   rintro _ _ ⟨u68, a68, c68, rfl, rfl⟩
   refine RL.openPeer (us := u68) (Pick.rd (T := RPeer) memX) fun ja jn jc ia im ic oa on oc hus => ?_
   subst hus
   refine RL.val (Wanted.free rfl) (V.extract rfl rfl rfl) rfl ?_
   refine RL.val (Wanted.free rfl) (V.extract rfl rfl rfl) rfl ?_
   refine RL.eff (Wanted.free rfl) (E.storeWhole rfl rfl rfl (by rfl) sz26 pickX pv_one (by rfl)) rfl ?_
   rintro _ _ rfl
   refine RL.val (Wanted.free rfl) (V.assign rfl rfl) rfl ?_
   refine RL.nil ?_
   refine SG.retE (Ret.r2 Try.func31 rfl (.agg rfl ag26 pickX rfl rfl) (.tmp rfl)) ?_ ⟨_, _, _, rfl, rfl⟩
   exact entX
  ·
   refine SG.region ?_
   refine RL.val (Wanted.free rfl) (V.fieldAddr rfl rfl fo50_0) rfl ?_
   refine RL.val (Wanted.free rfl) (V.load rfl on3 rfl pickX rfl) rfl ?_
   refine RL.nil ?_
   try refine SG.ent (Pick.rd (T := RPeer) (cs := pv p (.slice ka kn kc) (.slice wa wn wc) (.slice xa xn xc)) (y := p) memX) ?_
   refine SG.weaken (rest ⟨(ka, kn, kc), (wa, wn, wc), (xa, xn, xc)⟩ trivial) ?_ ?_
   ·
    repeat (first | exact EnvLe.nil _ | refine EnvLe.cons rfl ?_)
   ·
    rw [hq]
    try dsimp only
    exact entX

set_option maxRecDepth 100000 in
set_option maxHeartbeats 1000000 in
theorem rhandle_k4 {κ : World} {L : List Assn} {us ms : List Value} {p : Peer} {m : Msg} (hm : Rd RPeer us p ∈ L) (hmm : Rd RMsg ms m ∈ L) (ho : POk p) (hmo : MOk m) (hk : m.kind = 4) (h1 : m.to = p.id) (hf0 : 0 ≤ m.frm) (hf1 : m.frm < p.nodes) (hf2 : m.frm ≠ p.id) :
    Ctr Try.prog 31 #[.agg us.toArray, .agg ms.toArray] κ L (fun v M => ∃ us' a c, v = .tuple #[.agg us'.toArray, .slice a (handle p m).2.length c] ∧ M = Rd RPeer us' (handle p m).1 :: Sl RMsg a (handle p m).2.length c (handle p m).2 :: L) := by
 refine Ctr.enter (vs := [.agg us.toArray, .agg ms.toArray]) (m := 115) Try.func31 rfl rfl rfl ?_
 refine SG.openPeer (Pick.rd hm) fun ka kn kc wa wn wc xa xn xc hus => ?_
 subst hus
 refine SG.openMsg (us := ms) (m := m) (Pick.rd (T := RMsg) memX) fun sa sn sc hms => ?_
 subst hms
 obtain ⟨n1, n5, i0, i1, t0, t1, ll, lv, lm, vn, mn, c0, c1, mm, dd⟩ := id ho
 have hm0 := hmo.t0
 have hm1 := hmo.t1
 refine SG.seq ?_
 refine SG.region ?_
 refine RL.eff (Wanted.free rfl) (E.box _ rfl rfl rfl) rfl ?_
 rintro _ _ ⟨b2, rfl, rfl⟩
 refine RL.eff (Wanted.free rfl) (E.box _ rfl rfl rfl) rfl ?_
 rintro _ _ ⟨b3, rfl, rfl⟩
 refine RL.eff (Wanted.free rfl) (E.alloc rfl ze26) rfl ?_
 rintro _ _ ⟨b4, rfl, rfl⟩
 refine RL.val (Wanted.free rfl) (V.assign rfl rfl) rfl ?_
 refine RL.nil ?_
 refine SG.seq ?_
 refine SG.seq ?_
 refine SG.region ?_
 refine RL.val (Wanted.free rfl) (V.fieldAddr rfl rfl fo50_2) rfl ?_
 refine RL.val (Wanted.free rfl) (V.load rfl on3 rfl pickX rfl) rfl ?_
 refine RL.val (Wanted.free rfl) (V.fieldAddr rfl rfl fo26_0) rfl ?_
 refine RL.val (Wanted.free rfl) (V.load rfl on3 rfl pickX rfl) rfl ?_
 refine RL.cmpF (Wanted.free rfl) (V.bin rfl rfl rfl B.neq) rfl (by omega) ?_
 refine RL.val (Wanted.free rfl) (V.move rfl rfl) rfl ?_
 refine RL.val (Wanted.yes rfl rfl rfl rfl) (V.fieldAddr rfl rfl fo50_1) rfl ?_
 refine RL.val (Wanted.yes rfl rfl rfl rfl) (V.load rfl on3 rfl pickX rfl) rfl ?_
 refine RL.cmpF (Wanted.yes rfl rfl rfl rfl) (V.bin rfl rfl rfl B.lss) rfl (by omega) ?_
 refine RL.val (Wanted.free rfl) (V.pick_false rfl rfl rfl) rfl ?_
 refine RL.val (Wanted.free rfl) (V.move rfl rfl) rfl ?_
 refine RL.val (Wanted.yes rfl rfl rfl rfl) (V.fieldAddr rfl rfl fo50_1) rfl ?_
 refine RL.val (Wanted.yes rfl rfl rfl rfl) (V.load rfl on3 rfl pickX rfl) rfl ?_
 refine RL.val (Wanted.yes rfl rfl rfl rfl) (V.fieldAddr rfl rfl fo26_1) rfl ?_
 refine RL.val (Wanted.yes rfl rfl rfl rfl) (V.load rfl on3 rfl pickX rfl) rfl ?_
 refine RL.cmpF (Wanted.yes rfl rfl rfl rfl) (V.bin rfl rfl rfl B.geq) rfl (by omega) ?_
 refine RL.val (Wanted.free rfl) (V.pick_false rfl rfl rfl) rfl ?_
 refine RL.val (Wanted.free rfl) (V.move rfl rfl) rfl ?_
 refine RL.val (Wanted.yes rfl rfl rfl rfl) (V.fieldAddr rfl rfl fo50_1) rfl ?_
 refine RL.val (Wanted.yes rfl rfl rfl rfl) (V.load rfl on3 rfl pickX rfl) rfl ?_
 refine RL.val (Wanted.yes rfl rfl rfl rfl) (V.fieldAddr rfl rfl fo26_0) rfl ?_
 refine RL.val (Wanted.yes rfl rfl rfl rfl) (V.load rfl on3 rfl pickX rfl) rfl ?_
 refine RL.cmpF (Wanted.yes rfl rfl rfl rfl) (V.bin rfl rfl rfl B.eql) rfl (by omega) ?_
 refine RL.val (Wanted.free rfl) (V.pick_false rfl rfl rfl) rfl ?_
 refine RL.val (Wanted.free rfl) (V.move rfl rfl) rfl ?_
 refine RL.val (Wanted.yes rfl rfl rfl rfl) (V.fieldAddr rfl rfl fo50_0) rfl ?_
 refine RL.val (Wanted.yes rfl rfl rfl rfl) (V.load rfl on3 rfl pickX rfl) rfl ?_
 refine RL.cmpF (Wanted.yes rfl rfl rfl rfl) (V.bin rfl rfl rfl B.lss) rfl (by omega) ?_
 refine RL.val (Wanted.free rfl) (V.pick_false rfl rfl rfl) rfl ?_
 refine RL.val (Wanted.free rfl) (V.move rfl rfl) rfl ?_
 refine RL.val (Wanted.yes rfl rfl rfl rfl) (V.fieldAddr rfl rfl fo50_0) rfl ?_
 refine RL.val (Wanted.yes rfl rfl rfl rfl) (V.load rfl on3 rfl pickX rfl) rfl ?_
 refine RL.cmpF (Wanted.yes rfl rfl rfl rfl) (V.bin rfl rfl rfl B.gtr) rfl (by omega) ?_
 refine RL.val (Wanted.free rfl) (V.pick_false rfl rfl rfl) rfl ?_
 refine RL.nil ?_
 refine SG.cond_false rfl ?_
 refine SG.skip ?_
 refine SG.seq ?_
 refine SG.seq ?_
 refine SG.region ?_
 refine RL.val (Wanted.free rfl) (V.fieldAddr rfl rfl fo50_3) rfl ?_
 refine RL.val (Wanted.free rfl) (V.load rfl on3 rfl pickX rfl) rfl ?_
 refine RL.val (Wanted.free rfl) (V.fieldAddr rfl rfl fo26_2) rfl ?_
 refine RL.val (Wanted.free rfl) (V.load rfl on3 rfl pickX rfl) rfl ?_
 refine RL.cmp (Wanted.free rfl) (V.bin rfl rfl rfl B.gtr) rfl (fun h32 => ?_) (fun h32 => ?_)
 ·
  have hq := raised_yes (p := p) (m := m) (by omega)
  refine RL.nil ?_
  refine SG.cond_true rfl ?_
  refine SG.region ?_
  refine RL.val (Wanted.free rfl) (V.loadAgg (us := pv p (.slice ka kn kc) (.slice wa wn wc) (.slice xa xn xc)) rfl ag26 rfl pickX rfl rfl) rfl ?_
  refine RL.val (Wanted.free rfl) (V.fieldAddr rfl rfl fo50_3) rfl ?_
  refine RL.val (Wanted.free rfl) (V.load rfl on3 rfl pickX rfl) rfl ?_
  refine RL.eff (Wanted.free rfl) (E.call rfl go74 rfl (rdown_ok (p := p) (T := m.term) memX)) rfl ?_
  rintro _ _ ⟨u49, rfl, rfl⟩
  refine RL.openPeer (us := u49) (Pick.rd (T := RPeer) memX) fun ja jn jc ia im ic oa on oc hus => ?_
  subst hus
  refine RL.eff (Wanted.free rfl) (E.storeWhole rfl rfl rfl (by rfl) sz26 pickX pv_one (by rfl)) rfl ?_
  rintro _ _ rfl
  refine RL.nil ?_
  refine SG.seq ?_
  refine SG.seq ?_
  refine SG.join (ι := Tri × Tri × Tri) (fun ⟨⟨qa, qn, qc⟩, ⟨ga, gn, gc⟩, ⟨ha, hn, hc⟩⟩ => [(2, ptr b2 0), (3, ptr b3 0), (4, ptr b4 0), (5, .slice none 0 0), (51, vI m.kind)]) (fun ⟨⟨qa, qn, qc⟩, ⟨ga, gn, gc⟩, ⟨ha, hn, hc⟩⟩ => Blk b2 26 (pv (Rp.raised p m) (.slice qa qn qc) (.slice ga gn gc) (.slice ha hn hc)) :: Sl RSlot qa qn qc (Rp.raised p m).log :: Sl RB ga gn gc (Rp.raised p m).votes :: Sl RI ha hn hc (Rp.raised p m).mtch :: Rd RPeer (pv (Rp.raised p m) (.slice qa qn qc) (.slice ga gn gc) (.slice ha hn hc)) (Rp.raised p m) :: Blk b3 50 (mv m (.slice sa sn sc)) :: Blk b4 26 [.int .i64 0, .int .i64 0, .int .i64 0, .int .i64 0, .int .i64 0, .int .i64 0, .slice none 0 0, .slice none 0 0, .slice none 0 0] :: L) (fun ⟨⟨qa, qn, qc⟩, ⟨ga, gn, gc⟩, ⟨ha, hn, hc⟩⟩ => True) ?_ (fun rest => ?_)
  ·
   rintro ⟨⟨qa, qn, qc⟩, ⟨ga, gn, gc⟩, ⟨ha, hn, hc⟩⟩ _
   try dsimp only
   have hh : handle p m = (if m.term < (Rp.raised p m).term ∨ m.yes = false then (Rp.raised p m) else storedP (Rp.raised p m) m, []) := by rw [handle, if_neg (by unfold strange; omega), handleQ]; simp [hk]
   have hrt : m.term ≤ (Rp.raised p m).term := by unfold Rp.raised; split; (· exact Int.le_refl _); (· omega)
   rw [hh]
   obtain ⟨hqi, hqn⟩ := raised_id p m
   obtain ⟨qn1, qn5, qi0, qi1, qt0, qt1, qll, qlv, qlm, qvn, qmn, qc0, qc1, qmm, qdd⟩ := raised_ok ho hmo
   generalize Rp.raised p m = q at *
   refine SG.ent (Sl.nil (T := RMsg)) ?_
   have hx0 := hmo.x0
   have hx1 := hmo.x1
   refine SG.sl (T := RSlot) (a := qa) (l := q.log) memX fun hqlen _ _ => ?_
   refine SG.block ?_
   refine SG.seq ?_
   refine SG.region ?_
   refine RL.cmpF (Wanted.free rfl) (V.bin rfl rfl rfl B.eql) rfl (by omega) ?_
   refine RL.val (Wanted.free rfl) (V.assign rfl rfl) rfl ?_
   refine RL.nil ?_
   refine SG.cond_false rfl ?_
   refine SG.seq ?_
   refine SG.region ?_
   refine RL.cmpF (Wanted.free rfl) (V.bin rfl rfl rfl B.eql) rfl (by omega) ?_
   refine RL.val (Wanted.free rfl) (V.assign rfl rfl) rfl ?_
   refine RL.nil ?_
   refine SG.cond_false rfl ?_
   refine SG.seq ?_
   refine SG.region ?_
   refine RL.cmpF (Wanted.free rfl) (V.bin rfl rfl rfl B.eql) rfl (by omega) ?_
   refine RL.val (Wanted.free rfl) (V.assign rfl rfl) rfl ?_
   refine RL.nil ?_
   refine SG.cond_false rfl ?_
   refine SG.skip ?_
   refine SG.inBlock ?_
   refine SG.seq ?_
   refine SG.seq ?_
   refine SG.drawL 33 33 wide rfl rfl ?_
   refine RH.val 0 rfl krX krX krX krX (Wanted.free rfl) (V.fieldAddr rfl rfl fo26_4) rfl ?_
   refine RH.val 1 rfl krX krX krX krX (Wanted.free rfl) (V.load rfl on3 rfl pickX rfl) rfl ?_
   refine RH.cmp 2 rfl krX krX krX krX (Wanted.free rfl) (V.bin rfl rfl rfl B.eql) rfl (fun h43 => ?_) (fun h43 => ?_)
   ·
    refine RH.val 3 rfl krX krX krX krX (Wanted.free rfl) (V.move rfl rfl) rfl ?_
    refine RH.val 4 rfl krX krX krX krX (Wanted.yes rfl rfl rfl rfl) (V.fieldAddr rfl rfl fo50_3) rfl ?_
    refine RH.val 5 rfl krX krX krX krX (Wanted.yes rfl rfl rfl rfl) (V.load rfl on3 rfl pickX rfl) rfl ?_
    refine RH.val 6 rfl krX krX krX krX (Wanted.yes rfl rfl rfl rfl) (V.fieldAddr rfl rfl fo26_2) rfl ?_
    refine RH.val 7 rfl krX krX krX krX (Wanted.yes rfl rfl rfl rfl) (V.load rfl on3 rfl pickX rfl) rfl ?_
    refine RH.cmp 8 rfl krX krX krX krX (Wanted.yes rfl rfl rfl rfl) (V.bin rfl rfl rfl B.eql) rfl (fun h49 => ?_) (fun h49 => ?_)
    ·
     refine RH.pure 9 rfl krX krX krX krX (Wanted.free rfl) (V.pick_true rfl rfl rfl) rfl ?_
     refine RH.val 10 rfl krX krX krX krX (Wanted.free rfl) (V.move rfl rfl) rfl ?_
     refine RH.val 11 rfl krX krX krX krX (Wanted.yes rfl rfl rfl rfl) (V.fieldAddr rfl rfl fo50_8) rfl ?_
     refine RH.val 12 rfl krX krX krX krX (Wanted.yes rfl rfl rfl rfl) (V.load rfl on4 rfl pickX rfl) rfl ?_
     refine RH.pure 13 rfl krX krX krX krX (Wanted.free rfl) (V.pick_true rfl rfl rfl) rfl ?_
     refine RH.val 14 rfl krX krX krX krX (Wanted.free rfl) (V.move rfl rfl) rfl ?_
     refine RH.split 85 rfl (fun g54 => ?_) (fun g54 => ?_)
     ·
      refine RH.val 15 rfl krX krX krX krX (Wanted.yes rfl rfl rfl rfl) (V.fieldAddr rfl rfl fo50_4) rfl ?_
      refine RH.val 16 rfl krX krX krX krX (Wanted.yes rfl rfl rfl rfl) (V.load rfl on3 rfl pickX rfl) rfl ?_
      refine RH.val 17 rfl krX krX krX krX (Wanted.yes rfl rfl rfl rfl) (V.fieldAddr rfl rfl fo26_6) rfl ?_
      refine RH.val 18 rfl krX krX krX krX (Wanted.yes rfl rfl rfl rfl) (V.load rfl on23 rfl pickX rfl) rfl ?_
      refine RH.val 19 rfl krX krX krX krX (Wanted.yes rfl rfl rfl rfl) (V.len rfl rfl el23.under rfl) rfl ?_
      refine RH.cmp 20 rfl krX krX krX krX (Wanted.yes rfl rfl rfl rfl) (V.bin rfl rfl rfl B.leq) rfl (fun h60 => ?_) (fun h60 => ?_)
      ·
       refine RH.pure 21 rfl krX krX krX krX (Wanted.free rfl) (V.pick_true rfl rfl rfl) rfl ?_
       refine RH.val 22 rfl krX krX krX krX (Wanted.free rfl) (V.move rfl rfl) rfl ?_
       refine RH.val 23 rfl krX krX krX krX (Wanted.yes rfl rfl rfl rfl) (V.fieldAddr rfl rfl fo50_4) rfl ?_
       refine RH.val 24 rfl krX krX krX krX (Wanted.yes rfl rfl rfl rfl) (V.load rfl on3 rfl pickX rfl) rfl ?_
       have hfl : m.frm.toNat < q.mtch.length := by have := qmn (by omega); omega
       have hgd : q.mtch.getD m.frm.toNat 0 = q.mtch[m.frm.toNat]'hfl := by rw [List.getD_eq_getElem?_getD, List.getElem?_eq_getElem hfl]; rfl
       refine RH.val 25 rfl krX krX krX krX (Wanted.yes rfl rfl rfl rfl) (V.fieldAddr rfl rfl fo26_8) rfl ?_
       refine RH.val 26 rfl krX krX krX krX (Wanted.yes rfl rfl rfl rfl) (V.load rfl on22 rfl pickX rfl) rfl ?_
       refine RH.val 27 rfl krX krX krX krX (Wanted.yes rfl rfl rfl rfl) (V.fieldAddr rfl rfl fo50_1) rfl ?_
       refine RH.val 28 rfl krX krX krX krX (Wanted.yes rfl rfl rfl rfl) (V.load rfl on3 rfl pickX rfl) rfl ?_
       refine RH.val 29 rfl krX krX krX krX (Wanted.yes rfl rfl rfl rfl) (V.indexSl (T := RI) (l := q.mtch) (a := ha) (j := m.frm.toNat) rfl el22.slice rfl rfl memX (by omega) hfl) rfl ?_
       refine RH.val 30 rfl krX krX krX krX (Wanted.yes rfl rfl rfl rfl) (V.loadSc (l := q.mtch) (j := m.frm.toNat) rfl on3 rfl (show Sl RI ha hn hc q.mtch ∈ _ from memX) (List.getElem?_eq_getElem hfl)) rfl ?_
       refine RH.cmp 31 rfl krX krX krX krX (Wanted.yes rfl rfl rfl rfl) (V.bin rfl rfl rfl B.gtr) rfl (fun h70 => ?_) (fun h70 => ?_)
       ·
        refine RH.pure 32 rfl krX krX krX krX (Wanted.free rfl) (V.pick_true rfl rfl rfl) rfl ?_
        refine RH.done krX ?_
        refine SG.cond_true rfl ?_
        refine SG.seq ?_
        have hre : (if m.term < q.term ∨ m.yes = false then q else storedP q m) = counted { q with mtch := q.mtch.set m.frm.toNat m.index } := by
         rw [if_neg (by rintro (h | h); (· omega); (· rw [show m.yes = true from by assumption] at h; cases h)), storedP, if_neg (by omega)]
        rw [hre]
        refine SG.region ?_
        refine RL.val (Wanted.free rfl) (V.fieldAddr rfl rfl fo26_8) rfl ?_
        refine RL.val (Wanted.free rfl) (V.load rfl on22 rfl pickX rfl) rfl ?_
        refine RL.val (Wanted.free rfl) (V.fieldAddr rfl rfl fo50_1) rfl ?_
        refine RL.val (Wanted.free rfl) (V.load rfl on3 rfl pickX rfl) rfl ?_
        refine RL.val (Wanted.free rfl) (V.fieldAddr rfl rfl fo50_4) rfl ?_
        refine RL.val (Wanted.free rfl) (V.load rfl on3 rfl pickX rfl) rfl ?_
        refine RL.eff (Wanted.free rfl) (E.call rfl go66 rfl (matched_ok (l := q.mtch) (j := m.frm) (x := m.index) memX (by omega) (by omega) (by omega) (by unfold inInt; omega))) rfl ?_
        rintro _ _ ⟨a110, c110, rfl, rfl⟩
        refine RL.val (Wanted.free rfl) (V.fieldAddr rfl rfl fo26_8) rfl ?_
        refine RL.eff (Wanted.free rfl) (E.store1 rfl rfl rfl rfl rfl sz22 pickX rfl) rfl ?_
        rintro _ _ rfl
        refine RL.nil ?_
        refine SG.seq ?_
        refine SG.publish (T := RI) (a := a110) pickX ?_
        refine SG.ent (RPeer.mk (p := { q with mtch := q.mtch.set m.frm.toNat m.index }) (la := qa) (ln := qn) (lc := qc) (va := ga) (vn := gn) (vc := gc) (ma := a110) (mn := q.mtch.length) (mc := c110) memX memX memX) ?_
        refine SG.region ?_
        refine RL.val (Wanted.free rfl) (V.loadAgg (us := pv { q with mtch := q.mtch.set m.frm.toNat m.index } (.slice qa qn qc) (.slice ga gn gc) (.slice a110 q.mtch.length c110)) rfl ag26 rfl pickX rfl rfl) rfl ?_
        refine RL.eff (Wanted.free rfl) (E.call rfl go67 rfl (rcount_ok (p := { q with mtch := q.mtch.set m.frm.toNat m.index }) memX (by show q.log.length ≤ _; omega) (by show (q.mtch.set _ _).length ≤ _; rw [List.length_set]; omega) (by show q.nodes ≤ _; omega) qc0 qc1)) rfl ?_
        rintro _ _ ⟨u113, rfl, rfl⟩
        refine RL.openPeer (us := u113) (Pick.rd (T := RPeer) memX) fun ja jn jc ia im ic oa on oc hus => ?_
        subst hus
        refine RL.eff (Wanted.free rfl) (E.storeWhole rfl rfl rfl (by rfl) sz26 pickX pv_one (by rfl)) rfl ?_
        rintro _ _ rfl
        refine RL.val (Wanted.free rfl) (V.assign rfl rfl) rfl ?_
        refine RL.nil ?_
        refine SG.retE (Ret.r2 Try.func31 rfl (.agg rfl ag26 pickX rfl rfl) (.tmp rfl)) ?_ ⟨_, _, _, rfl, rfl⟩
        exact entX
       ·
        refine RH.pure 32 rfl krX krX krX krX (Wanted.free rfl) (V.pick_true rfl rfl rfl) rfl ?_
        refine RH.done krX ?_
        refine SG.cond_false rfl ?_
        refine SG.skip ?_
        refine SG.seq ?_
        have hre : (if m.term < q.term ∨ m.yes = false then q else storedP q m) = q := by
         split
         ·
          rfl
         ·
          rename_i hne
          first | exact absurd (Or.inr (by assumption)) hne | rw [storedP, if_pos (by omega)]
        rw [hre]
        refine SG.region ?_
        refine RL.val (Wanted.free rfl) (V.loadAgg (us := pv q (.slice qa qn qc) (.slice ga gn gc) (.slice ha hn hc)) rfl ag26 rfl pickX rfl rfl) rfl ?_
        refine RL.eff (Wanted.free rfl) (E.storeWhole rfl rfl rfl (by rfl) sz26 pickX pv_one (by rfl)) rfl ?_
        rintro _ _ rfl
        refine RL.val (Wanted.free rfl) (V.assign rfl rfl) rfl ?_
        refine RL.nil ?_
        refine SG.retE (Ret.r2 Try.func31 rfl (.agg rfl ag26 pickX rfl rfl) (.tmp rfl)) ?_ ⟨_, _, _, rfl, rfl⟩
        exact entX
      ·
       refine RH.pure 21 rfl krX krX krX krX (Wanted.free rfl) (V.pick_true rfl rfl rfl) rfl ?_
       refine RH.val 22 rfl krX krX krX krX (Wanted.free rfl) (V.move rfl rfl) rfl ?_
       refine RH.skip 23 rfl krX krX krX krX (Wanted.no rfl rfl rfl rfl rfl) rfl ?_
       refine RH.skip 24 rfl krX krX krX krX (Wanted.no rfl rfl rfl rfl rfl) rfl ?_
       refine RH.skip 25 rfl krX krX krX krX (Wanted.no rfl rfl rfl rfl rfl) rfl ?_
       refine RH.skip 26 rfl krX krX krX krX (Wanted.no rfl rfl rfl rfl rfl) rfl ?_
       refine RH.skip 27 rfl krX krX krX krX (Wanted.no rfl rfl rfl rfl rfl) rfl ?_
       refine RH.skip 28 rfl krX krX krX krX (Wanted.no rfl rfl rfl rfl rfl) rfl ?_
       refine RH.skip 29 rfl krX krX krX krX (Wanted.no rfl rfl rfl rfl rfl) rfl ?_
       refine RH.skip 30 rfl krX krX krX krX (Wanted.no rfl rfl rfl rfl rfl) rfl ?_
       refine RH.skip 31 rfl krX krX krX krX (Wanted.no rfl rfl rfl rfl rfl) rfl ?_
       refine RH.pure 32 rfl krX krX krX krX (Wanted.free rfl) (V.pick_false rfl rfl rfl) rfl ?_
       refine RH.done krX ?_
       refine SG.cond_false rfl ?_
       refine SG.skip ?_
       refine SG.seq ?_
       have hre : (if m.term < q.term ∨ m.yes = false then q else storedP q m) = q := by
        split
        ·
         rfl
        ·
         rename_i hne
         first | exact absurd (Or.inr (by assumption)) hne | rw [storedP, if_pos (by omega)]
       rw [hre]
       refine SG.region ?_
       refine RL.val (Wanted.free rfl) (V.loadAgg (us := pv q (.slice qa qn qc) (.slice ga gn gc) (.slice ha hn hc)) rfl ag26 rfl pickX rfl rfl) rfl ?_
       refine RL.eff (Wanted.free rfl) (E.storeWhole rfl rfl rfl (by rfl) sz26 pickX pv_one (by rfl)) rfl ?_
       rintro _ _ rfl
       refine RL.val (Wanted.free rfl) (V.assign rfl rfl) rfl ?_
       refine RL.nil ?_
       refine SG.retE (Ret.r2 Try.func31 rfl (.agg rfl ag26 pickX rfl rfl) (.tmp rfl)) ?_ ⟨_, _, _, rfl, rfl⟩
       exact entX
     ·
      refine RH.skip 15 rfl krX krX krX krX (Wanted.no rfl rfl rfl rfl rfl) rfl ?_
      refine RH.skip 16 rfl krX krX krX krX (Wanted.no rfl rfl rfl rfl rfl) rfl ?_
      refine RH.skip 17 rfl krX krX krX krX (Wanted.no rfl rfl rfl rfl rfl) rfl ?_
      refine RH.skip 18 rfl krX krX krX krX (Wanted.no rfl rfl rfl rfl rfl) rfl ?_
      refine RH.skip 19 rfl krX krX krX krX (Wanted.no rfl rfl rfl rfl rfl) rfl ?_
      refine RH.skip 20 rfl krX krX krX krX (Wanted.no rfl rfl rfl rfl rfl) rfl ?_
      refine RH.pure 21 rfl krX krX krX krX (Wanted.free rfl) (V.pick_false rfl rfl rfl) rfl ?_
      refine RH.val 22 rfl krX krX krX krX (Wanted.free rfl) (V.move rfl rfl) rfl ?_
      refine RH.skip 23 rfl krX krX krX krX (Wanted.no rfl rfl rfl rfl rfl) rfl ?_
      refine RH.skip 24 rfl krX krX krX krX (Wanted.no rfl rfl rfl rfl rfl) rfl ?_
      refine RH.skip 25 rfl krX krX krX krX (Wanted.no rfl rfl rfl rfl rfl) rfl ?_
      refine RH.skip 26 rfl krX krX krX krX (Wanted.no rfl rfl rfl rfl rfl) rfl ?_
      refine RH.skip 27 rfl krX krX krX krX (Wanted.no rfl rfl rfl rfl rfl) rfl ?_
      refine RH.skip 28 rfl krX krX krX krX (Wanted.no rfl rfl rfl rfl rfl) rfl ?_
      refine RH.skip 29 rfl krX krX krX krX (Wanted.no rfl rfl rfl rfl rfl) rfl ?_
      refine RH.skip 30 rfl krX krX krX krX (Wanted.no rfl rfl rfl rfl rfl) rfl ?_
      refine RH.skip 31 rfl krX krX krX krX (Wanted.no rfl rfl rfl rfl rfl) rfl ?_
      refine RH.pure 32 rfl krX krX krX krX (Wanted.free rfl) (V.pick_false rfl rfl rfl) rfl ?_
      refine RH.done krX ?_
      refine SG.cond_false rfl ?_
      refine SG.skip ?_
      refine SG.seq ?_
      have hre : (if m.term < q.term ∨ m.yes = false then q else storedP q m) = q := by
       split
       ·
        rfl
       ·
        rename_i hne
        first | exact absurd (Or.inr (by assumption)) hne | rw [storedP, if_pos (by omega)]
      rw [hre]
      refine SG.region ?_
      refine RL.val (Wanted.free rfl) (V.loadAgg (us := pv q (.slice qa qn qc) (.slice ga gn gc) (.slice ha hn hc)) rfl ag26 rfl pickX rfl rfl) rfl ?_
      refine RL.eff (Wanted.free rfl) (E.storeWhole rfl rfl rfl (by rfl) sz26 pickX pv_one (by rfl)) rfl ?_
      rintro _ _ rfl
      refine RL.val (Wanted.free rfl) (V.assign rfl rfl) rfl ?_
      refine RL.nil ?_
      refine SG.retE (Ret.r2 Try.func31 rfl (.agg rfl ag26 pickX rfl rfl) (.tmp rfl)) ?_ ⟨_, _, _, rfl, rfl⟩
      exact entX
    ·
     refine RH.pure 9 rfl krX krX krX krX (Wanted.free rfl) (V.pick_true rfl rfl rfl) rfl ?_
     refine RH.val 10 rfl krX krX krX krX (Wanted.free rfl) (V.move rfl rfl) rfl ?_
     refine RH.skip 11 rfl krX krX krX krX (Wanted.no rfl rfl rfl rfl rfl) rfl ?_
     refine RH.skip 12 rfl krX krX krX krX (Wanted.no rfl rfl rfl rfl rfl) rfl ?_
     refine RH.pure 13 rfl krX krX krX krX (Wanted.free rfl) (V.pick_false rfl rfl rfl) rfl ?_
     refine RH.val 14 rfl krX krX krX krX (Wanted.free rfl) (V.move rfl rfl) rfl ?_
     refine RH.skip 15 rfl krX krX krX krX (Wanted.no rfl rfl rfl rfl rfl) rfl ?_
     refine RH.skip 16 rfl krX krX krX krX (Wanted.no rfl rfl rfl rfl rfl) rfl ?_
     refine RH.skip 17 rfl krX krX krX krX (Wanted.no rfl rfl rfl rfl rfl) rfl ?_
     refine RH.skip 18 rfl krX krX krX krX (Wanted.no rfl rfl rfl rfl rfl) rfl ?_
     refine RH.skip 19 rfl krX krX krX krX (Wanted.no rfl rfl rfl rfl rfl) rfl ?_
     refine RH.skip 20 rfl krX krX krX krX (Wanted.no rfl rfl rfl rfl rfl) rfl ?_
     refine RH.pure 21 rfl krX krX krX krX (Wanted.free rfl) (V.pick_false rfl rfl rfl) rfl ?_
     refine RH.val 22 rfl krX krX krX krX (Wanted.free rfl) (V.move rfl rfl) rfl ?_
     refine RH.skip 23 rfl krX krX krX krX (Wanted.no rfl rfl rfl rfl rfl) rfl ?_
     refine RH.skip 24 rfl krX krX krX krX (Wanted.no rfl rfl rfl rfl rfl) rfl ?_
     refine RH.skip 25 rfl krX krX krX krX (Wanted.no rfl rfl rfl rfl rfl) rfl ?_
     refine RH.skip 26 rfl krX krX krX krX (Wanted.no rfl rfl rfl rfl rfl) rfl ?_
     refine RH.skip 27 rfl krX krX krX krX (Wanted.no rfl rfl rfl rfl rfl) rfl ?_
     refine RH.skip 28 rfl krX krX krX krX (Wanted.no rfl rfl rfl rfl rfl) rfl ?_
     refine RH.skip 29 rfl krX krX krX krX (Wanted.no rfl rfl rfl rfl rfl) rfl ?_
     refine RH.skip 30 rfl krX krX krX krX (Wanted.no rfl rfl rfl rfl rfl) rfl ?_
     refine RH.skip 31 rfl krX krX krX krX (Wanted.no rfl rfl rfl rfl rfl) rfl ?_
     refine RH.pure 32 rfl krX krX krX krX (Wanted.free rfl) (V.pick_false rfl rfl rfl) rfl ?_
     refine RH.done krX ?_
     refine SG.cond_false rfl ?_
     refine SG.skip ?_
     refine SG.seq ?_
     have hre : (if m.term < q.term ∨ m.yes = false then q else storedP q m) = q := by
      split
      ·
       rfl
      ·
       rename_i hne
       first | exact absurd (Or.inr (by assumption)) hne | rw [storedP, if_pos (by omega)]
     rw [hre]
     refine SG.region ?_
     refine RL.val (Wanted.free rfl) (V.loadAgg (us := pv q (.slice qa qn qc) (.slice ga gn gc) (.slice ha hn hc)) rfl ag26 rfl pickX rfl rfl) rfl ?_
     refine RL.eff (Wanted.free rfl) (E.storeWhole rfl rfl rfl (by rfl) sz26 pickX pv_one (by rfl)) rfl ?_
     rintro _ _ rfl
     refine RL.val (Wanted.free rfl) (V.assign rfl rfl) rfl ?_
     refine RL.nil ?_
     refine SG.retE (Ret.r2 Try.func31 rfl (.agg rfl ag26 pickX rfl rfl) (.tmp rfl)) ?_ ⟨_, _, _, rfl, rfl⟩
     exact entX
   ·
    refine RH.val 3 rfl krX krX krX krX (Wanted.free rfl) (V.move rfl rfl) rfl ?_
    refine RH.skip 4 rfl krX krX krX krX (Wanted.no rfl rfl rfl rfl rfl) rfl ?_
    refine RH.skip 5 rfl krX krX krX krX (Wanted.no rfl rfl rfl rfl rfl) rfl ?_
    refine RH.skip 6 rfl krX krX krX krX (Wanted.no rfl rfl rfl rfl rfl) rfl ?_
    refine RH.skip 7 rfl krX krX krX krX (Wanted.no rfl rfl rfl rfl rfl) rfl ?_
    refine RH.skip 8 rfl krX krX krX krX (Wanted.no rfl rfl rfl rfl rfl) rfl ?_
    refine RH.pure 9 rfl krX krX krX krX (Wanted.free rfl) (V.pick_false rfl rfl rfl) rfl ?_
    refine RH.val 10 rfl krX krX krX krX (Wanted.free rfl) (V.move rfl rfl) rfl ?_
    refine RH.skip 11 rfl krX krX krX krX (Wanted.no rfl rfl rfl rfl rfl) rfl ?_
    refine RH.skip 12 rfl krX krX krX krX (Wanted.no rfl rfl rfl rfl rfl) rfl ?_
    refine RH.pure 13 rfl krX krX krX krX (Wanted.free rfl) (V.pick_false rfl rfl rfl) rfl ?_
    refine RH.val 14 rfl krX krX krX krX (Wanted.free rfl) (V.move rfl rfl) rfl ?_
    refine RH.skip 15 rfl krX krX krX krX (Wanted.no rfl rfl rfl rfl rfl) rfl ?_
    refine RH.skip 16 rfl krX krX krX krX (Wanted.no rfl rfl rfl rfl rfl) rfl ?_
    refine RH.skip 17 rfl krX krX krX krX (Wanted.no rfl rfl rfl rfl rfl) rfl ?_
    refine RH.skip 18 rfl krX krX krX krX (Wanted.no rfl rfl rfl rfl rfl) rfl ?_
    refine RH.skip 19 rfl krX krX krX krX (Wanted.no rfl rfl rfl rfl rfl) rfl ?_
    refine RH.skip 20 rfl krX krX krX krX (Wanted.no rfl rfl rfl rfl rfl) rfl ?_
    refine RH.pure 21 rfl krX krX krX krX (Wanted.free rfl) (V.pick_false rfl rfl rfl) rfl ?_
    refine RH.val 22 rfl krX krX krX krX (Wanted.free rfl) (V.move rfl rfl) rfl ?_
    refine RH.skip 23 rfl krX krX krX krX (Wanted.no rfl rfl rfl rfl rfl) rfl ?_
    refine RH.skip 24 rfl krX krX krX krX (Wanted.no rfl rfl rfl rfl rfl) rfl ?_
    refine RH.skip 25 rfl krX krX krX krX (Wanted.no rfl rfl rfl rfl rfl) rfl ?_
    refine RH.skip 26 rfl krX krX krX krX (Wanted.no rfl rfl rfl rfl rfl) rfl ?_
    refine RH.skip 27 rfl krX krX krX krX (Wanted.no rfl rfl rfl rfl rfl) rfl ?_
    refine RH.skip 28 rfl krX krX krX krX (Wanted.no rfl rfl rfl rfl rfl) rfl ?_
    refine RH.skip 29 rfl krX krX krX krX (Wanted.no rfl rfl rfl rfl rfl) rfl ?_
    refine RH.skip 30 rfl krX krX krX krX (Wanted.no rfl rfl rfl rfl rfl) rfl ?_
    refine RH.skip 31 rfl krX krX krX krX (Wanted.no rfl rfl rfl rfl rfl) rfl ?_
    refine RH.pure 32 rfl krX krX krX krX (Wanted.free rfl) (V.pick_false rfl rfl rfl) rfl ?_
    refine RH.done krX ?_
    refine SG.cond_false rfl ?_
    refine SG.skip ?_
    refine SG.seq ?_
    have hre : (if m.term < q.term ∨ m.yes = false then q else storedP q m) = q := by
     split
     ·
      rfl
     ·
      rename_i hne
      first | exact absurd (Or.inr (by assumption)) hne | rw [storedP, if_pos (by omega)]
    rw [hre]
    refine SG.region ?_
    refine RL.val (Wanted.free rfl) (V.loadAgg (us := pv q (.slice qa qn qc) (.slice ga gn gc) (.slice ha hn hc)) rfl ag26 rfl pickX rfl rfl) rfl ?_
    refine RL.eff (Wanted.free rfl) (E.storeWhole rfl rfl rfl (by rfl) sz26 pickX pv_one (by rfl)) rfl ?_
    rintro _ _ rfl
    refine RL.val (Wanted.free rfl) (V.assign rfl rfl) rfl ?_
    refine RL.nil ?_
    refine SG.retE (Ret.r2 Try.func31 rfl (.agg rfl ag26 pickX rfl rfl) (.tmp rfl)) ?_ ⟨_, _, _, rfl, rfl⟩
    exact entX
  ·
   refine SG.region ?_
   refine RL.val (Wanted.free rfl) (V.fieldAddr rfl rfl fo50_0) rfl ?_
   refine RL.val (Wanted.free rfl) (V.load rfl on3 rfl pickX rfl) rfl ?_
   refine RL.nil ?_
   try refine SG.ent (Pick.rd (T := RPeer) (cs := pv p (.slice ka kn kc) (.slice wa wn wc) (.slice xa xn xc)) (y := p) memX) ?_
   refine SG.weaken (rest ⟨(ja, jn, jc), (ia, im, ic), (oa, on, oc)⟩ trivial) ?_ ?_
   ·
    repeat (first | exact EnvLe.nil _ | refine EnvLe.cons rfl ?_)
   ·
    rw [hq]
    try dsimp only
    exact entX
 ·
  have hq := raised_no (p := p) (m := m) (by omega)
  refine RL.nil ?_
  refine SG.cond_false rfl ?_
  refine SG.skip ?_
  refine SG.seq ?_
  refine SG.seq ?_
  refine SG.join (ι := Tri × Tri × Tri) (fun ⟨⟨qa, qn, qc⟩, ⟨ga, gn, gc⟩, ⟨ha, hn, hc⟩⟩ => [(2, ptr b2 0), (3, ptr b3 0), (4, ptr b4 0), (5, .slice none 0 0), (51, vI m.kind)]) (fun ⟨⟨qa, qn, qc⟩, ⟨ga, gn, gc⟩, ⟨ha, hn, hc⟩⟩ => Blk b2 26 (pv (Rp.raised p m) (.slice qa qn qc) (.slice ga gn gc) (.slice ha hn hc)) :: Sl RSlot qa qn qc (Rp.raised p m).log :: Sl RB ga gn gc (Rp.raised p m).votes :: Sl RI ha hn hc (Rp.raised p m).mtch :: Rd RPeer (pv (Rp.raised p m) (.slice qa qn qc) (.slice ga gn gc) (.slice ha hn hc)) (Rp.raised p m) :: Blk b3 50 (mv m (.slice sa sn sc)) :: Blk b4 26 [.int .i64 0, .int .i64 0, .int .i64 0, .int .i64 0, .int .i64 0, .int .i64 0, .slice none 0 0, .slice none 0 0, .slice none 0 0] :: L) (fun ⟨⟨qa, qn, qc⟩, ⟨ga, gn, gc⟩, ⟨ha, hn, hc⟩⟩ => True) ?_ (fun rest => ?_)
  ·
   rintro ⟨⟨qa, qn, qc⟩, ⟨ga, gn, gc⟩, ⟨ha, hn, hc⟩⟩ _
   try dsimp only
   have hh : handle p m = (if m.term < (Rp.raised p m).term ∨ m.yes = false then (Rp.raised p m) else storedP (Rp.raised p m) m, []) := by rw [handle, if_neg (by unfold strange; omega), handleQ]; simp [hk]
   have hrt : m.term ≤ (Rp.raised p m).term := by unfold Rp.raised; split; (· exact Int.le_refl _); (· omega)
   rw [hh]
   obtain ⟨hqi, hqn⟩ := raised_id p m
   obtain ⟨qn1, qn5, qi0, qi1, qt0, qt1, qll, qlv, qlm, qvn, qmn, qc0, qc1, qmm, qdd⟩ := raised_ok ho hmo
   generalize Rp.raised p m = q at *
   refine SG.ent (Sl.nil (T := RMsg)) ?_
   have hx0 := hmo.x0
   have hx1 := hmo.x1
   refine SG.sl (T := RSlot) (a := qa) (l := q.log) memX fun hqlen _ _ => ?_
   refine SG.block ?_
   refine SG.seq ?_
   refine SG.region ?_
   refine RL.cmpF (Wanted.free rfl) (V.bin rfl rfl rfl B.eql) rfl (by omega) ?_
   refine RL.val (Wanted.free rfl) (V.assign rfl rfl) rfl ?_
   refine RL.nil ?_
   refine SG.cond_false rfl ?_
   refine SG.seq ?_
   refine SG.region ?_
   refine RL.cmpF (Wanted.free rfl) (V.bin rfl rfl rfl B.eql) rfl (by omega) ?_
   refine RL.val (Wanted.free rfl) (V.assign rfl rfl) rfl ?_
   refine RL.nil ?_
   refine SG.cond_false rfl ?_
   refine SG.seq ?_
   refine SG.region ?_
   refine RL.cmpF (Wanted.free rfl) (V.bin rfl rfl rfl B.eql) rfl (by omega) ?_
   refine RL.val (Wanted.free rfl) (V.assign rfl rfl) rfl ?_
   refine RL.nil ?_
   refine SG.cond_false rfl ?_
   refine SG.skip ?_
   refine SG.inBlock ?_
   refine SG.seq ?_
   refine SG.seq ?_
   refine SG.drawL 33 33 wide rfl rfl ?_
   refine RH.val 0 rfl krX krX krX krX (Wanted.free rfl) (V.fieldAddr rfl rfl fo26_4) rfl ?_
   refine RH.val 1 rfl krX krX krX krX (Wanted.free rfl) (V.load rfl on3 rfl pickX rfl) rfl ?_
   refine RH.cmp 2 rfl krX krX krX krX (Wanted.free rfl) (V.bin rfl rfl rfl B.eql) rfl (fun h115 => ?_) (fun h115 => ?_)
   ·
    refine RH.val 3 rfl krX krX krX krX (Wanted.free rfl) (V.move rfl rfl) rfl ?_
    refine RH.val 4 rfl krX krX krX krX (Wanted.yes rfl rfl rfl rfl) (V.fieldAddr rfl rfl fo50_3) rfl ?_
    refine RH.val 5 rfl krX krX krX krX (Wanted.yes rfl rfl rfl rfl) (V.load rfl on3 rfl pickX rfl) rfl ?_
    refine RH.val 6 rfl krX krX krX krX (Wanted.yes rfl rfl rfl rfl) (V.fieldAddr rfl rfl fo26_2) rfl ?_
    refine RH.val 7 rfl krX krX krX krX (Wanted.yes rfl rfl rfl rfl) (V.load rfl on3 rfl pickX rfl) rfl ?_
    refine RH.cmp 8 rfl krX krX krX krX (Wanted.yes rfl rfl rfl rfl) (V.bin rfl rfl rfl B.eql) rfl (fun h121 => ?_) (fun h121 => ?_)
    ·
     refine RH.pure 9 rfl krX krX krX krX (Wanted.free rfl) (V.pick_true rfl rfl rfl) rfl ?_
     refine RH.val 10 rfl krX krX krX krX (Wanted.free rfl) (V.move rfl rfl) rfl ?_
     refine RH.val 11 rfl krX krX krX krX (Wanted.yes rfl rfl rfl rfl) (V.fieldAddr rfl rfl fo50_8) rfl ?_
     refine RH.val 12 rfl krX krX krX krX (Wanted.yes rfl rfl rfl rfl) (V.load rfl on4 rfl pickX rfl) rfl ?_
     refine RH.pure 13 rfl krX krX krX krX (Wanted.free rfl) (V.pick_true rfl rfl rfl) rfl ?_
     refine RH.val 14 rfl krX krX krX krX (Wanted.free rfl) (V.move rfl rfl) rfl ?_
     refine RH.split 85 rfl (fun g126 => ?_) (fun g126 => ?_)
     ·
      refine RH.val 15 rfl krX krX krX krX (Wanted.yes rfl rfl rfl rfl) (V.fieldAddr rfl rfl fo50_4) rfl ?_
      refine RH.val 16 rfl krX krX krX krX (Wanted.yes rfl rfl rfl rfl) (V.load rfl on3 rfl pickX rfl) rfl ?_
      refine RH.val 17 rfl krX krX krX krX (Wanted.yes rfl rfl rfl rfl) (V.fieldAddr rfl rfl fo26_6) rfl ?_
      refine RH.val 18 rfl krX krX krX krX (Wanted.yes rfl rfl rfl rfl) (V.load rfl on23 rfl pickX rfl) rfl ?_
      refine RH.val 19 rfl krX krX krX krX (Wanted.yes rfl rfl rfl rfl) (V.len rfl rfl el23.under rfl) rfl ?_
      refine RH.cmp 20 rfl krX krX krX krX (Wanted.yes rfl rfl rfl rfl) (V.bin rfl rfl rfl B.leq) rfl (fun h132 => ?_) (fun h132 => ?_)
      ·
       refine RH.pure 21 rfl krX krX krX krX (Wanted.free rfl) (V.pick_true rfl rfl rfl) rfl ?_
       refine RH.val 22 rfl krX krX krX krX (Wanted.free rfl) (V.move rfl rfl) rfl ?_
       refine RH.val 23 rfl krX krX krX krX (Wanted.yes rfl rfl rfl rfl) (V.fieldAddr rfl rfl fo50_4) rfl ?_
       refine RH.val 24 rfl krX krX krX krX (Wanted.yes rfl rfl rfl rfl) (V.load rfl on3 rfl pickX rfl) rfl ?_
       have hfl : m.frm.toNat < q.mtch.length := by have := qmn (by omega); omega
       have hgd : q.mtch.getD m.frm.toNat 0 = q.mtch[m.frm.toNat]'hfl := by rw [List.getD_eq_getElem?_getD, List.getElem?_eq_getElem hfl]; rfl
       refine RH.val 25 rfl krX krX krX krX (Wanted.yes rfl rfl rfl rfl) (V.fieldAddr rfl rfl fo26_8) rfl ?_
       refine RH.val 26 rfl krX krX krX krX (Wanted.yes rfl rfl rfl rfl) (V.load rfl on22 rfl pickX rfl) rfl ?_
       refine RH.val 27 rfl krX krX krX krX (Wanted.yes rfl rfl rfl rfl) (V.fieldAddr rfl rfl fo50_1) rfl ?_
       refine RH.val 28 rfl krX krX krX krX (Wanted.yes rfl rfl rfl rfl) (V.load rfl on3 rfl pickX rfl) rfl ?_
       refine RH.val 29 rfl krX krX krX krX (Wanted.yes rfl rfl rfl rfl) (V.indexSl (T := RI) (l := q.mtch) (a := ha) (j := m.frm.toNat) rfl el22.slice rfl rfl memX (by omega) hfl) rfl ?_
       refine RH.val 30 rfl krX krX krX krX (Wanted.yes rfl rfl rfl rfl) (V.loadSc (l := q.mtch) (j := m.frm.toNat) rfl on3 rfl (show Sl RI ha hn hc q.mtch ∈ _ from memX) (List.getElem?_eq_getElem hfl)) rfl ?_
       refine RH.cmp 31 rfl krX krX krX krX (Wanted.yes rfl rfl rfl rfl) (V.bin rfl rfl rfl B.gtr) rfl (fun h142 => ?_) (fun h142 => ?_)
       ·
        refine RH.pure 32 rfl krX krX krX krX (Wanted.free rfl) (V.pick_true rfl rfl rfl) rfl ?_
        refine RH.done krX ?_
        refine SG.cond_true rfl ?_
        refine SG.seq ?_
        have hre : (if m.term < q.term ∨ m.yes = false then q else storedP q m) = counted { q with mtch := q.mtch.set m.frm.toNat m.index } := by
         rw [if_neg (by rintro (h | h); (· omega); (· rw [show m.yes = true from by assumption] at h; cases h)), storedP, if_neg (by omega)]
        rw [hre]
        refine SG.region ?_
        refine RL.val (Wanted.free rfl) (V.fieldAddr rfl rfl fo26_8) rfl ?_
        refine RL.val (Wanted.free rfl) (V.load rfl on22 rfl pickX rfl) rfl ?_
        refine RL.val (Wanted.free rfl) (V.fieldAddr rfl rfl fo50_1) rfl ?_
        refine RL.val (Wanted.free rfl) (V.load rfl on3 rfl pickX rfl) rfl ?_
        refine RL.val (Wanted.free rfl) (V.fieldAddr rfl rfl fo50_4) rfl ?_
        refine RL.val (Wanted.free rfl) (V.load rfl on3 rfl pickX rfl) rfl ?_
        refine RL.eff (Wanted.free rfl) (E.call rfl go66 rfl (matched_ok (l := q.mtch) (j := m.frm) (x := m.index) memX (by omega) (by omega) (by omega) (by unfold inInt; omega))) rfl ?_
        rintro _ _ ⟨a110, c110, rfl, rfl⟩
        refine RL.val (Wanted.free rfl) (V.fieldAddr rfl rfl fo26_8) rfl ?_
        refine RL.eff (Wanted.free rfl) (E.store1 rfl rfl rfl rfl rfl sz22 pickX rfl) rfl ?_
        rintro _ _ rfl
        refine RL.nil ?_
        refine SG.seq ?_
        refine SG.publish (T := RI) (a := a110) pickX ?_
        refine SG.ent (RPeer.mk (p := { q with mtch := q.mtch.set m.frm.toNat m.index }) (la := qa) (ln := qn) (lc := qc) (va := ga) (vn := gn) (vc := gc) (ma := a110) (mn := q.mtch.length) (mc := c110) memX memX memX) ?_
        refine SG.region ?_
        refine RL.val (Wanted.free rfl) (V.loadAgg (us := pv { q with mtch := q.mtch.set m.frm.toNat m.index } (.slice qa qn qc) (.slice ga gn gc) (.slice a110 q.mtch.length c110)) rfl ag26 rfl pickX rfl rfl) rfl ?_
        refine RL.eff (Wanted.free rfl) (E.call rfl go67 rfl (rcount_ok (p := { q with mtch := q.mtch.set m.frm.toNat m.index }) memX (by show q.log.length ≤ _; omega) (by show (q.mtch.set _ _).length ≤ _; rw [List.length_set]; omega) (by show q.nodes ≤ _; omega) qc0 qc1)) rfl ?_
        rintro _ _ ⟨u113, rfl, rfl⟩
        refine RL.openPeer (us := u113) (Pick.rd (T := RPeer) memX) fun ja jn jc ia im ic oa on oc hus => ?_
        subst hus
        refine RL.eff (Wanted.free rfl) (E.storeWhole rfl rfl rfl (by rfl) sz26 pickX pv_one (by rfl)) rfl ?_
        rintro _ _ rfl
        refine RL.val (Wanted.free rfl) (V.assign rfl rfl) rfl ?_
        refine RL.nil ?_
        refine SG.retE (Ret.r2 Try.func31 rfl (.agg rfl ag26 pickX rfl rfl) (.tmp rfl)) ?_ ⟨_, _, _, rfl, rfl⟩
        exact entX
       ·
        refine RH.pure 32 rfl krX krX krX krX (Wanted.free rfl) (V.pick_true rfl rfl rfl) rfl ?_
        refine RH.done krX ?_
        refine SG.cond_false rfl ?_
        refine SG.skip ?_
        refine SG.seq ?_
        have hre : (if m.term < q.term ∨ m.yes = false then q else storedP q m) = q := by
         split
         ·
          rfl
         ·
          rename_i hne
          first | exact absurd (Or.inr (by assumption)) hne | rw [storedP, if_pos (by omega)]
        rw [hre]
        refine SG.region ?_
        refine RL.val (Wanted.free rfl) (V.loadAgg (us := pv q (.slice qa qn qc) (.slice ga gn gc) (.slice ha hn hc)) rfl ag26 rfl pickX rfl rfl) rfl ?_
        refine RL.eff (Wanted.free rfl) (E.storeWhole rfl rfl rfl (by rfl) sz26 pickX pv_one (by rfl)) rfl ?_
        rintro _ _ rfl
        refine RL.val (Wanted.free rfl) (V.assign rfl rfl) rfl ?_
        refine RL.nil ?_
        refine SG.retE (Ret.r2 Try.func31 rfl (.agg rfl ag26 pickX rfl rfl) (.tmp rfl)) ?_ ⟨_, _, _, rfl, rfl⟩
        exact entX
      ·
       refine RH.pure 21 rfl krX krX krX krX (Wanted.free rfl) (V.pick_true rfl rfl rfl) rfl ?_
       refine RH.val 22 rfl krX krX krX krX (Wanted.free rfl) (V.move rfl rfl) rfl ?_
       refine RH.skip 23 rfl krX krX krX krX (Wanted.no rfl rfl rfl rfl rfl) rfl ?_
       refine RH.skip 24 rfl krX krX krX krX (Wanted.no rfl rfl rfl rfl rfl) rfl ?_
       refine RH.skip 25 rfl krX krX krX krX (Wanted.no rfl rfl rfl rfl rfl) rfl ?_
       refine RH.skip 26 rfl krX krX krX krX (Wanted.no rfl rfl rfl rfl rfl) rfl ?_
       refine RH.skip 27 rfl krX krX krX krX (Wanted.no rfl rfl rfl rfl rfl) rfl ?_
       refine RH.skip 28 rfl krX krX krX krX (Wanted.no rfl rfl rfl rfl rfl) rfl ?_
       refine RH.skip 29 rfl krX krX krX krX (Wanted.no rfl rfl rfl rfl rfl) rfl ?_
       refine RH.skip 30 rfl krX krX krX krX (Wanted.no rfl rfl rfl rfl rfl) rfl ?_
       refine RH.skip 31 rfl krX krX krX krX (Wanted.no rfl rfl rfl rfl rfl) rfl ?_
       refine RH.pure 32 rfl krX krX krX krX (Wanted.free rfl) (V.pick_false rfl rfl rfl) rfl ?_
       refine RH.done krX ?_
       refine SG.cond_false rfl ?_
       refine SG.skip ?_
       refine SG.seq ?_
       have hre : (if m.term < q.term ∨ m.yes = false then q else storedP q m) = q := by
        split
        ·
         rfl
        ·
         rename_i hne
         first | exact absurd (Or.inr (by assumption)) hne | rw [storedP, if_pos (by omega)]
       rw [hre]
       refine SG.region ?_
       refine RL.val (Wanted.free rfl) (V.loadAgg (us := pv q (.slice qa qn qc) (.slice ga gn gc) (.slice ha hn hc)) rfl ag26 rfl pickX rfl rfl) rfl ?_
       refine RL.eff (Wanted.free rfl) (E.storeWhole rfl rfl rfl (by rfl) sz26 pickX pv_one (by rfl)) rfl ?_
       rintro _ _ rfl
       refine RL.val (Wanted.free rfl) (V.assign rfl rfl) rfl ?_
       refine RL.nil ?_
       refine SG.retE (Ret.r2 Try.func31 rfl (.agg rfl ag26 pickX rfl rfl) (.tmp rfl)) ?_ ⟨_, _, _, rfl, rfl⟩
       exact entX
     ·
      refine RH.skip 15 rfl krX krX krX krX (Wanted.no rfl rfl rfl rfl rfl) rfl ?_
      refine RH.skip 16 rfl krX krX krX krX (Wanted.no rfl rfl rfl rfl rfl) rfl ?_
      refine RH.skip 17 rfl krX krX krX krX (Wanted.no rfl rfl rfl rfl rfl) rfl ?_
      refine RH.skip 18 rfl krX krX krX krX (Wanted.no rfl rfl rfl rfl rfl) rfl ?_
      refine RH.skip 19 rfl krX krX krX krX (Wanted.no rfl rfl rfl rfl rfl) rfl ?_
      refine RH.skip 20 rfl krX krX krX krX (Wanted.no rfl rfl rfl rfl rfl) rfl ?_
      refine RH.pure 21 rfl krX krX krX krX (Wanted.free rfl) (V.pick_false rfl rfl rfl) rfl ?_
      refine RH.val 22 rfl krX krX krX krX (Wanted.free rfl) (V.move rfl rfl) rfl ?_
      refine RH.skip 23 rfl krX krX krX krX (Wanted.no rfl rfl rfl rfl rfl) rfl ?_
      refine RH.skip 24 rfl krX krX krX krX (Wanted.no rfl rfl rfl rfl rfl) rfl ?_
      refine RH.skip 25 rfl krX krX krX krX (Wanted.no rfl rfl rfl rfl rfl) rfl ?_
      refine RH.skip 26 rfl krX krX krX krX (Wanted.no rfl rfl rfl rfl rfl) rfl ?_
      refine RH.skip 27 rfl krX krX krX krX (Wanted.no rfl rfl rfl rfl rfl) rfl ?_
      refine RH.skip 28 rfl krX krX krX krX (Wanted.no rfl rfl rfl rfl rfl) rfl ?_
      refine RH.skip 29 rfl krX krX krX krX (Wanted.no rfl rfl rfl rfl rfl) rfl ?_
      refine RH.skip 30 rfl krX krX krX krX (Wanted.no rfl rfl rfl rfl rfl) rfl ?_
      refine RH.skip 31 rfl krX krX krX krX (Wanted.no rfl rfl rfl rfl rfl) rfl ?_
      refine RH.pure 32 rfl krX krX krX krX (Wanted.free rfl) (V.pick_false rfl rfl rfl) rfl ?_
      refine RH.done krX ?_
      refine SG.cond_false rfl ?_
      refine SG.skip ?_
      refine SG.seq ?_
      have hre : (if m.term < q.term ∨ m.yes = false then q else storedP q m) = q := by
       split
       ·
        rfl
       ·
        rename_i hne
        first | exact absurd (Or.inr (by assumption)) hne | rw [storedP, if_pos (by omega)]
      rw [hre]
      refine SG.region ?_
      refine RL.val (Wanted.free rfl) (V.loadAgg (us := pv q (.slice qa qn qc) (.slice ga gn gc) (.slice ha hn hc)) rfl ag26 rfl pickX rfl rfl) rfl ?_
      refine RL.eff (Wanted.free rfl) (E.storeWhole rfl rfl rfl (by rfl) sz26 pickX pv_one (by rfl)) rfl ?_
      rintro _ _ rfl
      refine RL.val (Wanted.free rfl) (V.assign rfl rfl) rfl ?_
      refine RL.nil ?_
      refine SG.retE (Ret.r2 Try.func31 rfl (.agg rfl ag26 pickX rfl rfl) (.tmp rfl)) ?_ ⟨_, _, _, rfl, rfl⟩
      exact entX
    ·
     refine RH.pure 9 rfl krX krX krX krX (Wanted.free rfl) (V.pick_true rfl rfl rfl) rfl ?_
     refine RH.val 10 rfl krX krX krX krX (Wanted.free rfl) (V.move rfl rfl) rfl ?_
     refine RH.skip 11 rfl krX krX krX krX (Wanted.no rfl rfl rfl rfl rfl) rfl ?_
     refine RH.skip 12 rfl krX krX krX krX (Wanted.no rfl rfl rfl rfl rfl) rfl ?_
     refine RH.pure 13 rfl krX krX krX krX (Wanted.free rfl) (V.pick_false rfl rfl rfl) rfl ?_
     refine RH.val 14 rfl krX krX krX krX (Wanted.free rfl) (V.move rfl rfl) rfl ?_
     refine RH.skip 15 rfl krX krX krX krX (Wanted.no rfl rfl rfl rfl rfl) rfl ?_
     refine RH.skip 16 rfl krX krX krX krX (Wanted.no rfl rfl rfl rfl rfl) rfl ?_
     refine RH.skip 17 rfl krX krX krX krX (Wanted.no rfl rfl rfl rfl rfl) rfl ?_
     refine RH.skip 18 rfl krX krX krX krX (Wanted.no rfl rfl rfl rfl rfl) rfl ?_
     refine RH.skip 19 rfl krX krX krX krX (Wanted.no rfl rfl rfl rfl rfl) rfl ?_
     refine RH.skip 20 rfl krX krX krX krX (Wanted.no rfl rfl rfl rfl rfl) rfl ?_
     refine RH.pure 21 rfl krX krX krX krX (Wanted.free rfl) (V.pick_false rfl rfl rfl) rfl ?_
     refine RH.val 22 rfl krX krX krX krX (Wanted.free rfl) (V.move rfl rfl) rfl ?_
     refine RH.skip 23 rfl krX krX krX krX (Wanted.no rfl rfl rfl rfl rfl) rfl ?_
     refine RH.skip 24 rfl krX krX krX krX (Wanted.no rfl rfl rfl rfl rfl) rfl ?_
     refine RH.skip 25 rfl krX krX krX krX (Wanted.no rfl rfl rfl rfl rfl) rfl ?_
     refine RH.skip 26 rfl krX krX krX krX (Wanted.no rfl rfl rfl rfl rfl) rfl ?_
     refine RH.skip 27 rfl krX krX krX krX (Wanted.no rfl rfl rfl rfl rfl) rfl ?_
     refine RH.skip 28 rfl krX krX krX krX (Wanted.no rfl rfl rfl rfl rfl) rfl ?_
     refine RH.skip 29 rfl krX krX krX krX (Wanted.no rfl rfl rfl rfl rfl) rfl ?_
     refine RH.skip 30 rfl krX krX krX krX (Wanted.no rfl rfl rfl rfl rfl) rfl ?_
     refine RH.skip 31 rfl krX krX krX krX (Wanted.no rfl rfl rfl rfl rfl) rfl ?_
     refine RH.pure 32 rfl krX krX krX krX (Wanted.free rfl) (V.pick_false rfl rfl rfl) rfl ?_
     refine RH.done krX ?_
     refine SG.cond_false rfl ?_
     refine SG.skip ?_
     refine SG.seq ?_
     have hre : (if m.term < q.term ∨ m.yes = false then q else storedP q m) = q := by
      split
      ·
       rfl
      ·
       rename_i hne
       first | exact absurd (Or.inr (by assumption)) hne | rw [storedP, if_pos (by omega)]
     rw [hre]
     refine SG.region ?_
     refine RL.val (Wanted.free rfl) (V.loadAgg (us := pv q (.slice qa qn qc) (.slice ga gn gc) (.slice ha hn hc)) rfl ag26 rfl pickX rfl rfl) rfl ?_
     refine RL.eff (Wanted.free rfl) (E.storeWhole rfl rfl rfl (by rfl) sz26 pickX pv_one (by rfl)) rfl ?_
     rintro _ _ rfl
     refine RL.val (Wanted.free rfl) (V.assign rfl rfl) rfl ?_
     refine RL.nil ?_
     refine SG.retE (Ret.r2 Try.func31 rfl (.agg rfl ag26 pickX rfl rfl) (.tmp rfl)) ?_ ⟨_, _, _, rfl, rfl⟩
     exact entX
   ·
    refine RH.val 3 rfl krX krX krX krX (Wanted.free rfl) (V.move rfl rfl) rfl ?_
    refine RH.skip 4 rfl krX krX krX krX (Wanted.no rfl rfl rfl rfl rfl) rfl ?_
    refine RH.skip 5 rfl krX krX krX krX (Wanted.no rfl rfl rfl rfl rfl) rfl ?_
    refine RH.skip 6 rfl krX krX krX krX (Wanted.no rfl rfl rfl rfl rfl) rfl ?_
    refine RH.skip 7 rfl krX krX krX krX (Wanted.no rfl rfl rfl rfl rfl) rfl ?_
    refine RH.skip 8 rfl krX krX krX krX (Wanted.no rfl rfl rfl rfl rfl) rfl ?_
    refine RH.pure 9 rfl krX krX krX krX (Wanted.free rfl) (V.pick_false rfl rfl rfl) rfl ?_
    refine RH.val 10 rfl krX krX krX krX (Wanted.free rfl) (V.move rfl rfl) rfl ?_
    refine RH.skip 11 rfl krX krX krX krX (Wanted.no rfl rfl rfl rfl rfl) rfl ?_
    refine RH.skip 12 rfl krX krX krX krX (Wanted.no rfl rfl rfl rfl rfl) rfl ?_
    refine RH.pure 13 rfl krX krX krX krX (Wanted.free rfl) (V.pick_false rfl rfl rfl) rfl ?_
    refine RH.val 14 rfl krX krX krX krX (Wanted.free rfl) (V.move rfl rfl) rfl ?_
    refine RH.skip 15 rfl krX krX krX krX (Wanted.no rfl rfl rfl rfl rfl) rfl ?_
    refine RH.skip 16 rfl krX krX krX krX (Wanted.no rfl rfl rfl rfl rfl) rfl ?_
    refine RH.skip 17 rfl krX krX krX krX (Wanted.no rfl rfl rfl rfl rfl) rfl ?_
    refine RH.skip 18 rfl krX krX krX krX (Wanted.no rfl rfl rfl rfl rfl) rfl ?_
    refine RH.skip 19 rfl krX krX krX krX (Wanted.no rfl rfl rfl rfl rfl) rfl ?_
    refine RH.skip 20 rfl krX krX krX krX (Wanted.no rfl rfl rfl rfl rfl) rfl ?_
    refine RH.pure 21 rfl krX krX krX krX (Wanted.free rfl) (V.pick_false rfl rfl rfl) rfl ?_
    refine RH.val 22 rfl krX krX krX krX (Wanted.free rfl) (V.move rfl rfl) rfl ?_
    refine RH.skip 23 rfl krX krX krX krX (Wanted.no rfl rfl rfl rfl rfl) rfl ?_
    refine RH.skip 24 rfl krX krX krX krX (Wanted.no rfl rfl rfl rfl rfl) rfl ?_
    refine RH.skip 25 rfl krX krX krX krX (Wanted.no rfl rfl rfl rfl rfl) rfl ?_
    refine RH.skip 26 rfl krX krX krX krX (Wanted.no rfl rfl rfl rfl rfl) rfl ?_
    refine RH.skip 27 rfl krX krX krX krX (Wanted.no rfl rfl rfl rfl rfl) rfl ?_
    refine RH.skip 28 rfl krX krX krX krX (Wanted.no rfl rfl rfl rfl rfl) rfl ?_
    refine RH.skip 29 rfl krX krX krX krX (Wanted.no rfl rfl rfl rfl rfl) rfl ?_
    refine RH.skip 30 rfl krX krX krX krX (Wanted.no rfl rfl rfl rfl rfl) rfl ?_
    refine RH.skip 31 rfl krX krX krX krX (Wanted.no rfl rfl rfl rfl rfl) rfl ?_
    refine RH.pure 32 rfl krX krX krX krX (Wanted.free rfl) (V.pick_false rfl rfl rfl) rfl ?_
    refine RH.done krX ?_
    refine SG.cond_false rfl ?_
    refine SG.skip ?_
    refine SG.seq ?_
    have hre : (if m.term < q.term ∨ m.yes = false then q else storedP q m) = q := by
     split
     ·
      rfl
     ·
      rename_i hne
      first | exact absurd (Or.inr (by assumption)) hne | rw [storedP, if_pos (by omega)]
    rw [hre]
    refine SG.region ?_
    refine RL.val (Wanted.free rfl) (V.loadAgg (us := pv q (.slice qa qn qc) (.slice ga gn gc) (.slice ha hn hc)) rfl ag26 rfl pickX rfl rfl) rfl ?_
    refine RL.eff (Wanted.free rfl) (E.storeWhole rfl rfl rfl (by rfl) sz26 pickX pv_one (by rfl)) rfl ?_
    rintro _ _ rfl
    refine RL.val (Wanted.free rfl) (V.assign rfl rfl) rfl ?_
    refine RL.nil ?_
    refine SG.retE (Ret.r2 Try.func31 rfl (.agg rfl ag26 pickX rfl rfl) (.tmp rfl)) ?_ ⟨_, _, _, rfl, rfl⟩
    exact entX
  ·
   refine SG.region ?_
   refine RL.val (Wanted.free rfl) (V.fieldAddr rfl rfl fo50_0) rfl ?_
   refine RL.val (Wanted.free rfl) (V.load rfl on3 rfl pickX rfl) rfl ?_
   refine RL.nil ?_
   try refine SG.ent (Pick.rd (T := RPeer) (cs := pv p (.slice ka kn kc) (.slice wa wn wc) (.slice xa xn xc)) (y := p) memX) ?_
   refine SG.weaken (rest ⟨(ka, kn, kc), (wa, wn, wc), (xa, xn, xc)⟩ trivial) ?_ ?_
   ·
    repeat (first | exact EnvLe.nil _ | refine EnvLe.cons rfl ?_)
   ·
    rw [hq]
    try dsimp only
    exact entX

end Go.Proofs.Ytilcnglcflohoaa
