/- Acts. -/
import Derived.Test.YtilcnglcflohoaaRuns
namespace Go.Proofs.Ytilcnglcflohoaa
open Go.Wk Go.Rp

set_option maxRecDepth 100000 in
set_option maxHeartbeats 1000000 in
theorem act_ok {κ : World} {L : List Assn} {cs : List Value} {c : Clu} (hm : Rd RClu cs c ∈ L) (ho : COk c) (h1 : 1 ≤ c.nodes.length) {a : Act} (hao : AOk a) {i : Nat} (hi9 : i ≤ 1000) :
    Ctr Try.prog 56 #[.agg cs.toArray, .agg ([vI a.op, vI a.node, vI a.pick] : List Value).toArray, vI i] κ L (fun v M => ∃ cs', v = .agg cs'.toArray ∧ M = Rd RClu cs' (actC c a i) :: L) := by
 refine Ctr.enter (vs := [.agg cs.toArray, .agg ([vI a.op, vI a.node, vI a.pick] : List Value).toArray, vI i]) (m := 56) Try.func56 rfl rfl rfl ?_
 refine SG.openClu (Pick.rd hm) fun na nn nc sa sn sc hcs => ?_
 subst hcs
 obtain ⟨⟨o0, o1⟩, ⟨n0, n1⟩, ⟨p0, p1⟩⟩ := hao
 have hnd := nd_lt (a := a) h1
 have hcs := ho.s
 refine SG.sl (T := RPeer) (a := na) memX fun hnl _ _ => ?_
 refine SG.sl (T := RMsg) (a := sa) memX fun hsl _ _ => ?_
 obtain ⟨hb1, hb2⟩ := aroundV_bd (n := a.node) (most := (c.nodes.length : Int)) (by omega)
 refine SG.seq ?_
 refine SG.region ?_
 refine RL.eff (Wanted.free rfl) (E.box _ rfl rfl rfl) rfl ?_
 rintro _ _ ⟨b3, rfl, rfl⟩
 refine RL.eff (Wanted.free rfl) (E.box _ rfl rfl rfl) rfl ?_
 rintro _ _ ⟨b4, rfl, rfl⟩
 refine RL.eff (Wanted.free rfl) (E.alloc rfl ze37) rfl ?_
 rintro _ _ ⟨b6, rfl, rfl⟩
 refine RL.nil ?_
 refine SG.seq ?_
 refine SG.region ?_
 refine RL.val (Wanted.free rfl) (V.fieldAddr rfl rfl fo90_1) rfl ?_
 refine RL.val (Wanted.free rfl) (V.load rfl on3 rfl pickX rfl) rfl ?_
 refine RL.val (Wanted.free rfl) (V.fieldAddr rfl rfl fo37_0) rfl ?_
 refine RL.val (Wanted.free rfl) (V.load rfl on34 rfl pickX rfl) rfl ?_
 refine RL.val (Wanted.free rfl) (V.len rfl rfl el34.under rfl) rfl ?_
 refine RL.eff (Wanted.free rfl) (E.call rfl go29 rfl (around_ok _ _ (by omega) (by omega) (by omega))) rfl ?_
 rintro _ _ ⟨rfl, rfl⟩
 rw [show aroundV a.node (nn : Int) = ((ndOf c a : Nat) : Int) from by rw [← hnl, ndOf]; omega]
 refine RL.val (Wanted.free rfl) (V.assign rfl rfl) rfl ?_
 refine RL.nil ?_
 refine SG.seq ?_
 refine SG.seq ?_
 refine SG.region ?_
 refine RL.val (Wanted.free rfl) (V.fieldAddr rfl rfl fo90_0) rfl ?_
 refine RL.val (Wanted.free rfl) (V.load rfl on3 rfl pickX rfl) rfl ?_
 refine RL.nil ?_
 refine SG.block ?_
 refine SG.seq ?_
 refine SG.region ?_
 refine RL.cmp (Wanted.free rfl) (V.bin rfl rfl rfl B.eql) rfl (fun h13 => ?_) (fun h13 => ?_)
 ·
  refine RL.val (Wanted.free rfl) (V.assign rfl rfl) rfl ?_
  refine RL.nil ?_
  refine SG.cond_true rfl ?_
  refine SG.seq ?_
  refine SG.region ?_
  refine RL.val (Wanted.free rfl) (V.loadAgg (us := [.slice na nn nc, .slice sa sn sc]) rfl ag37 rfl pickX rfl rfl) rfl ?_
  refine RL.val (Wanted.free rfl) (V.move rfl rfl) rfl ?_
  refine RL.eff (Wanted.free rfl) (E.call rfl go35 rfl (cCamp_ok memX (by assumption) (by assumption))) rfl ?_
  rintro _ _ ⟨u20, rfl, rfl⟩
  refine RL.openClu (cs := u20) (Pick.rd (T := RClu) memX) fun ea en ec fa fn fc hcs => ?_
  subst hcs
  refine RL.eff (Wanted.free rfl) (E.storeWhole rfl rfl rfl (by rfl) sz37 pickX (by first | (simp [Value.oneCell']; done) | (simp [setAt, Value.oneCell']; done)) (by rfl)) rfl ?_
  rintro _ _ rfl
  refine RL.nil ?_
  first | rw [show actC c a i = cCamp c (ndOf c a) from if_pos (by omega)] | rw [show actC c a i = cProp c (ndOf c a) (decV i) from by rw [actC, if_neg (by omega), if_pos (by omega)]] | rw [show actC c a i = cBeat c (ndOf c a) from by rw [actC, if_neg (by omega), if_neg (by omega), if_pos (by omega)]] | rw [show actC c a i = cRest c (ndOf c a) from by rw [actC, if_neg (by omega), if_neg (by omega), if_neg (by omega), if_pos (by omega)]] | rw [show actC c a i = c from by rw [actC, if_neg (by omega), if_neg (by omega), if_neg (by omega), if_neg (by omega), if_pos (by omega)]] | rw [show actC c a i = cArr c (pickOf c a) from by rw [actC, if_neg (by omega), if_neg (by omega), if_neg (by omega), if_neg (by omega), if_neg (by omega)]]
  try refine SG.ent (Pick.rd (T := RClu) (cs := [.slice na nn nc, .slice sa sn sc]) (y := c) memX) ?_
  refine SG.retE (Ret.r1 Try.func56 rfl (.agg rfl ag37 pickX rfl rfl)) ?_ ⟨_, rfl, rfl⟩
  exact entX
 ·
  refine RL.val (Wanted.free rfl) (V.assign rfl rfl) rfl ?_
  refine RL.nil ?_
  refine SG.cond_false rfl ?_
  refine SG.seq ?_
  refine SG.region ?_
  refine RL.cmp (Wanted.free rfl) (V.bin rfl rfl rfl B.eql) rfl (fun h20 => ?_) (fun h20 => ?_)
  ·
   refine RL.val (Wanted.free rfl) (V.assign rfl rfl) rfl ?_
   refine RL.nil ?_
   refine SG.cond_true rfl ?_
   refine SG.seq ?_
   refine SG.drawN 6 5 (Blk b3 37 [.slice na nn nc, .slice sa sn sc] :: Blk b4 90 [vI a.op, vI a.node, vI a.pick] :: L) wide rfl rfl (by repeat (first | exact Ent.refl _ | (apply Ent.cons; (· repeat (first | exact Pick.here | (refine Pick.sl ?_; (· repeat (first | exact List.Mem.head _ | assumption | apply List.Mem.tail))) | apply Pick.there))) | (refine Ent.trans (Ent.drop _ _) ?_))) ?_
   refine RH.val 0 rfl krX krX krX krX (Wanted.free rfl) (V.loadAgg (us := [.slice na nn nc, .slice sa sn sc]) rfl ag37 rfl pickX rfl rfl) rfl ?_
   refine RH.val 1 rfl krX krX krX krX (Wanted.free rfl) (V.move rfl rfl) rfl ?_
   refine RH.val 2 rfl krX krX krX krX (Wanted.free rfl) (V.move rfl rfl) rfl ?_
   refine RH.one (i := 3) krX ?_
   refine RHone.eff rfl (Wanted.free rfl) (E.call rfl go84 rfl (decimal_ok (n := i) (by omega))) rfl ?_
   rintro _ _ ⟨rfl, rfl⟩
   refine ⟨.inr entX, ?_⟩
   refine RH.one (i := 4) krX ?_
   refine RHone.eff rfl (Wanted.free rfl) (E.call rfl go37 rfl (cProp_ok memX (by assumption) (by assumption))) rfl ?_
   rintro _ _ ⟨u27, rfl, rfl⟩
   refine ⟨.inr entX, ?_⟩
   refine RH.openClu (cs := u27) (Pick.rd (T := RClu) memX) fun ea en ec fa fn fc hcs => ?_
   subst hcs
   refine RH.one (i := 5) krX ?_
   refine RHone.eff rfl (Wanted.free rfl) (E.storeWhole rfl rfl rfl (by rfl) sz37 pickX (by first | (simp [Value.oneCell']; done) | (simp [setAt, Value.oneCell']; done)) (by rfl)) rfl ?_
   rintro _ _ rfl
   refine ⟨.inl krX, ?_⟩
   refine RH.done krX ?_
   first | rw [show actC c a i = cCamp c (ndOf c a) from if_pos (by omega)] | rw [show actC c a i = cProp c (ndOf c a) (decV i) from by rw [actC, if_neg (by omega), if_pos (by omega)]] | rw [show actC c a i = cBeat c (ndOf c a) from by rw [actC, if_neg (by omega), if_neg (by omega), if_pos (by omega)]] | rw [show actC c a i = cRest c (ndOf c a) from by rw [actC, if_neg (by omega), if_neg (by omega), if_neg (by omega), if_pos (by omega)]] | rw [show actC c a i = c from by rw [actC, if_neg (by omega), if_neg (by omega), if_neg (by omega), if_neg (by omega), if_pos (by omega)]] | rw [show actC c a i = cArr c (pickOf c a) from by rw [actC, if_neg (by omega), if_neg (by omega), if_neg (by omega), if_neg (by omega), if_neg (by omega)]]
   try refine SG.ent (Pick.rd (T := RClu) (cs := [.slice na nn nc, .slice sa sn sc]) (y := c) memX) ?_
   refine SG.retE (Ret.r1 Try.func56 rfl (.agg rfl ag37 pickX rfl rfl)) ?_ ⟨_, rfl, rfl⟩
   exact entX
  ·
   refine RL.val (Wanted.free rfl) (V.assign rfl rfl) rfl ?_
   refine RL.nil ?_
   refine SG.cond_false rfl ?_
   refine SG.seq ?_
   refine SG.region ?_
   refine RL.cmp (Wanted.free rfl) (V.bin rfl rfl rfl B.eql) rfl (fun h29 => ?_) (fun h29 => ?_)
   ·
    refine RL.val (Wanted.free rfl) (V.assign rfl rfl) rfl ?_
    refine RL.nil ?_
    refine SG.cond_true rfl ?_
    refine SG.seq ?_
    refine SG.region ?_
    refine RL.val (Wanted.free rfl) (V.loadAgg (us := [.slice na nn nc, .slice sa sn sc]) rfl ag37 rfl pickX rfl rfl) rfl ?_
    refine RL.val (Wanted.free rfl) (V.move rfl rfl) rfl ?_
    refine RL.eff (Wanted.free rfl) (E.call rfl go39 rfl (cBeat_ok memX (by assumption) (by assumption))) rfl ?_
    rintro _ _ ⟨u32, rfl, rfl⟩
    refine RL.openClu (cs := u32) (Pick.rd (T := RClu) memX) fun ea en ec fa fn fc hcs => ?_
    subst hcs
    refine RL.eff (Wanted.free rfl) (E.storeWhole rfl rfl rfl (by rfl) sz37 pickX (by first | (simp [Value.oneCell']; done) | (simp [setAt, Value.oneCell']; done)) (by rfl)) rfl ?_
    rintro _ _ rfl
    refine RL.nil ?_
    first | rw [show actC c a i = cCamp c (ndOf c a) from if_pos (by omega)] | rw [show actC c a i = cProp c (ndOf c a) (decV i) from by rw [actC, if_neg (by omega), if_pos (by omega)]] | rw [show actC c a i = cBeat c (ndOf c a) from by rw [actC, if_neg (by omega), if_neg (by omega), if_pos (by omega)]] | rw [show actC c a i = cRest c (ndOf c a) from by rw [actC, if_neg (by omega), if_neg (by omega), if_neg (by omega), if_pos (by omega)]] | rw [show actC c a i = c from by rw [actC, if_neg (by omega), if_neg (by omega), if_neg (by omega), if_neg (by omega), if_pos (by omega)]] | rw [show actC c a i = cArr c (pickOf c a) from by rw [actC, if_neg (by omega), if_neg (by omega), if_neg (by omega), if_neg (by omega), if_neg (by omega)]]
    try refine SG.ent (Pick.rd (T := RClu) (cs := [.slice na nn nc, .slice sa sn sc]) (y := c) memX) ?_
    refine SG.retE (Ret.r1 Try.func56 rfl (.agg rfl ag37 pickX rfl rfl)) ?_ ⟨_, rfl, rfl⟩
    exact entX
   ·
    refine RL.val (Wanted.free rfl) (V.assign rfl rfl) rfl ?_
    refine RL.nil ?_
    refine SG.cond_false rfl ?_
    refine SG.seq ?_
    refine SG.region ?_
    refine RL.cmp (Wanted.free rfl) (V.bin rfl rfl rfl B.eql) rfl (fun h36 => ?_) (fun h36 => ?_)
    ·
     refine RL.val (Wanted.free rfl) (V.assign rfl rfl) rfl ?_
     refine RL.nil ?_
     refine SG.cond_true rfl ?_
     refine SG.seq ?_
     refine SG.region ?_
     refine RL.val (Wanted.free rfl) (V.loadAgg (us := [.slice na nn nc, .slice sa sn sc]) rfl ag37 rfl pickX rfl rfl) rfl ?_
     refine RL.val (Wanted.free rfl) (V.move rfl rfl) rfl ?_
     refine RL.eff (Wanted.free rfl) (E.call rfl go85 rfl (cRest_ok memX (by assumption) (by assumption))) rfl ?_
     rintro _ _ ⟨u37, rfl, rfl⟩
     refine RL.openClu (cs := u37) (Pick.rd (T := RClu) memX) fun ea en ec fa fn fc hcs => ?_
     subst hcs
     refine RL.eff (Wanted.free rfl) (E.storeWhole rfl rfl rfl (by rfl) sz37 pickX (by first | (simp [Value.oneCell']; done) | (simp [setAt, Value.oneCell']; done)) (by rfl)) rfl ?_
     rintro _ _ rfl
     refine RL.nil ?_
     first | rw [show actC c a i = cCamp c (ndOf c a) from if_pos (by omega)] | rw [show actC c a i = cProp c (ndOf c a) (decV i) from by rw [actC, if_neg (by omega), if_pos (by omega)]] | rw [show actC c a i = cBeat c (ndOf c a) from by rw [actC, if_neg (by omega), if_neg (by omega), if_pos (by omega)]] | rw [show actC c a i = cRest c (ndOf c a) from by rw [actC, if_neg (by omega), if_neg (by omega), if_neg (by omega), if_pos (by omega)]] | rw [show actC c a i = c from by rw [actC, if_neg (by omega), if_neg (by omega), if_neg (by omega), if_neg (by omega), if_pos (by omega)]] | rw [show actC c a i = cArr c (pickOf c a) from by rw [actC, if_neg (by omega), if_neg (by omega), if_neg (by omega), if_neg (by omega), if_neg (by omega)]]
     try refine SG.ent (Pick.rd (T := RClu) (cs := [.slice na nn nc, .slice sa sn sc]) (y := c) memX) ?_
     refine SG.retE (Ret.r1 Try.func56 rfl (.agg rfl ag37 pickX rfl rfl)) ?_ ⟨_, rfl, rfl⟩
     exact entX
    ·
     refine RL.val (Wanted.free rfl) (V.assign rfl rfl) rfl ?_
     refine RL.nil ?_
     refine SG.cond_false rfl ?_
     refine SG.skip ?_
     refine SG.inBlock ?_
     refine SG.seq ?_
     refine SG.seq ?_
     refine SG.region ?_
     refine RL.val (Wanted.free rfl) (V.fieldAddr rfl rfl fo37_1) rfl ?_
     refine RL.val (Wanted.free rfl) (V.load rfl on35 rfl pickX rfl) rfl ?_
     refine RL.val (Wanted.free rfl) (V.len rfl rfl el35.under rfl) rfl ?_
     refine RL.cmp (Wanted.free rfl) (V.bin rfl rfl rfl B.eql) rfl (fun h46 => ?_) (fun h46 => ?_)
     ·
      refine RL.nil ?_
      refine SG.cond_true rfl ?_
      refine SG.seq ?_
      refine SG.region ?_
      refine RL.val (Wanted.free rfl) (V.loadAgg (us := [.slice na nn nc, .slice sa sn sc]) rfl ag37 rfl pickX rfl rfl) rfl ?_
      refine RL.eff (Wanted.free rfl) (E.storeWhole rfl rfl rfl (by rfl) sz37 pickX (by first | (simp [Value.oneCell']; done) | (simp [setAt, Value.oneCell']; done)) (by rfl)) rfl ?_
      rintro _ _ rfl
      refine RL.nil ?_
      first | rw [show actC c a i = cCamp c (ndOf c a) from if_pos (by omega)] | rw [show actC c a i = cProp c (ndOf c a) (decV i) from by rw [actC, if_neg (by omega), if_pos (by omega)]] | rw [show actC c a i = cBeat c (ndOf c a) from by rw [actC, if_neg (by omega), if_neg (by omega), if_pos (by omega)]] | rw [show actC c a i = cRest c (ndOf c a) from by rw [actC, if_neg (by omega), if_neg (by omega), if_neg (by omega), if_pos (by omega)]] | rw [show actC c a i = c from by rw [actC, if_neg (by omega), if_neg (by omega), if_neg (by omega), if_neg (by omega), if_pos (by omega)]] | rw [show actC c a i = cArr c (pickOf c a) from by rw [actC, if_neg (by omega), if_neg (by omega), if_neg (by omega), if_neg (by omega), if_neg (by omega)]]
      try refine SG.ent (Pick.rd (T := RClu) (cs := [.slice na nn nc, .slice sa sn sc]) (y := c) memX) ?_
      refine SG.retE (Ret.r1 Try.func56 rfl (.agg rfl ag37 pickX rfl rfl)) ?_ ⟨_, rfl, rfl⟩
      exact entX
     ·
      refine RL.nil ?_
      refine SG.cond_false rfl ?_
      refine SG.skip ?_
      refine SG.seq ?_
      have hs0 : c.sent.length ≠ 0 := by omega
      have hm0 := Int.emod_nonneg a.pick (show (sn : Int) ≠ 0 by omega)
      have hm1 := Int.emod_lt_of_pos a.pick (show (0 : Int) < sn by omega)
      refine SG.drawN 14 13 (Blk b3 37 [.slice na nn nc, .slice sa sn sc] :: Blk b4 90 [vI a.op, vI a.node, vI a.pick] :: Sl RPeer na nn nc c.nodes :: Sl RMsg sa sn sc c.sent :: L) wide rfl rfl (by repeat (first | exact Ent.refl _ | (apply Ent.cons; (· repeat (first | exact Pick.here | (refine Pick.sl ?_; (· repeat (first | exact List.Mem.head _ | assumption | apply List.Mem.tail))) | apply Pick.there))) | (refine Ent.trans (Ent.drop _ _) ?_))) ?_
      refine RH.val 0 rfl krX krX krX krX (Wanted.free rfl) (V.loadAgg (us := [.slice na nn nc, .slice sa sn sc]) rfl ag37 rfl pickX rfl rfl) rfl ?_
      refine RH.val 1 rfl krX krX krX krX (Wanted.free rfl) (V.fieldAddr rfl rfl fo37_1) rfl ?_
      refine RH.val 2 rfl krX krX krX krX (Wanted.free rfl) (V.load rfl on35 rfl pickX rfl) rfl ?_
      refine RH.val 3 rfl krX krX krX krX (Wanted.free rfl) (V.len rfl rfl el35.under rfl) rfl ?_
      refine RH.val 4 rfl krX krX krX krX (Wanted.free rfl) (V.bin rfl rfl rfl (B.subI (by omega) (by omega))) rfl ?_
      refine RH.val 5 rfl krX krX krX krX (Wanted.free rfl) (V.fieldAddr rfl rfl fo90_2) rfl ?_
      refine RH.val 6 rfl krX krX krX krX (Wanted.free rfl) (V.load rfl on3 rfl pickX rfl) rfl ?_
      refine RH.val 7 rfl krX krX krX krX (Wanted.free rfl) (V.fieldAddr rfl rfl fo37_1) rfl ?_
      refine RH.val 8 rfl krX krX krX krX (Wanted.free rfl) (V.load rfl on35 rfl pickX rfl) rfl ?_
      refine RH.val 9 rfl krX krX krX krX (Wanted.free rfl) (V.len rfl rfl el35.under rfl) rfl ?_
      refine RH.val 10 rfl krX krX krX krX (Wanted.free rfl) (V.bin rfl rfl rfl (B.remI (by omega) (by omega))) rfl ?_
      refine RH.val 11 rfl krX krX krX krX (Wanted.free rfl) (V.bin rfl rfl rfl (B.subI (by omega) (by omega))) rfl ?_
      rw [show ((sn : Int) - 1 - a.pick % (sn : Int)) = ((pickOf c a : Nat) : Int) from by unfold pickOf; rw [hsl]; omega]
      refine RH.one (i := 12) krX ?_
      refine RHone.eff rfl (Wanted.free rfl) (E.call rfl go69 rfl (cArr_ok (k := pickOf c a) memX (by assumption) (pick_lt hs0))) rfl ?_
      rintro _ _ ⟨u55, rfl, rfl⟩
      refine ⟨.inr entX, ?_⟩
      refine RH.openClu (cs := u55) (Pick.rd (T := RClu) memX) fun ea en ec fa fn fc hcs => ?_
      subst hcs
      refine RH.one (i := 13) krX ?_
      refine RHone.eff rfl (Wanted.free rfl) (E.storeWhole rfl rfl rfl (by rfl) sz37 pickX (by first | (simp [Value.oneCell']; done) | (simp [setAt, Value.oneCell']; done)) (by rfl)) rfl ?_
      rintro _ _ rfl
      refine ⟨.inl krX, ?_⟩
      refine RH.done krX ?_
      first | rw [show actC c a i = cCamp c (ndOf c a) from if_pos (by omega)] | rw [show actC c a i = cProp c (ndOf c a) (decV i) from by rw [actC, if_neg (by omega), if_pos (by omega)]] | rw [show actC c a i = cBeat c (ndOf c a) from by rw [actC, if_neg (by omega), if_neg (by omega), if_pos (by omega)]] | rw [show actC c a i = cRest c (ndOf c a) from by rw [actC, if_neg (by omega), if_neg (by omega), if_neg (by omega), if_pos (by omega)]] | rw [show actC c a i = c from by rw [actC, if_neg (by omega), if_neg (by omega), if_neg (by omega), if_neg (by omega), if_pos (by omega)]] | rw [show actC c a i = cArr c (pickOf c a) from by rw [actC, if_neg (by omega), if_neg (by omega), if_neg (by omega), if_neg (by omega), if_neg (by omega)]]
      try refine SG.ent (Pick.rd (T := RClu) (cs := [.slice na nn nc, .slice sa sn sc]) (y := c) memX) ?_
      refine SG.retE (Ret.r1 Try.func56 rfl (.agg rfl ag37 pickX rfl rfl)) ?_ ⟨_, rfl, rfl⟩
      exact entX

end Go.Proofs.Ytilcnglcflohoaa
