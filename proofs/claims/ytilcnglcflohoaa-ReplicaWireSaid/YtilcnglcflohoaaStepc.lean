/- Steps of clusters. -/
import Derived.Test.YtilcnglcflohoaaClus
namespace Go.Proofs.Ytilcnglcflohoaa
open Go.Wk Go.Rp

theorem mv_one {m : Msg} {a : Option Addr} {n c : Nat} : ∀ u ∈ mv m (.slice a n c), u.oneCell' = true := fun u hu => by
  simp only [mv, List.mem_cons, List.not_mem_nil, or_false] at hu
  rcases hu with rfl | rfl | rfl | rfl | rfl | rfl | rfl | rfl | rfl <;> rfl
theorem handle_len (p : Peer) (m : Msg) : (handle p m).2.length ≤ 1 := by
  unfold handle; split
  · simp
  · unfold handleQ
    split
    · simp
    split
    · simp
    split
    · unfold Rp.store; split
      · simp
      · split <;> simp
    · simp

theorem campaign_len (p : Peer) : (campaign p).2.length ≤ p.nodes.toNat := others_length p (campM p)
theorem beat_len (p : Peer) : (beat p).length ≤ p.nodes.toNat := by
  unfold beat; split
  · exact others_length p (beatM p)
  · simp
set_option maxRecDepth 100000 in
set_option maxHeartbeats 1000000 in
theorem cCamp_ok {κ : World} {L : List Assn} {cs : List Value} {c : Clu} (hm : Rd RClu cs c ∈ L) (ho : COk c) {i : Nat} (hi : i < c.nodes.length) :
    Ctr Try.prog 35 #[.agg cs.toArray, vI i] κ L (fun v M => ∃ cs', v = .agg cs'.toArray ∧ M = Rd RClu cs' (cCamp c i) :: L) := by
 refine Ctr.enter (vs := [.agg cs.toArray, vI i]) (m := 21) Try.func35 rfl rfl rfl ?_
 refine SG.openClu (Pick.rd hm) fun na nn nc sa sn sc hcs => ?_
 subst hcs
 obtain ⟨n1, n5, i0, i1, t0, t1, ll, lv, lm, vn, mn, c0, c1, mm, dd⟩ := ho.p _ (Clu.p_mem hi)
 have hcn := ho.n
 have hcs := ho.s
 have hcl := campaign_len (c.p i)
 refine SG.seq ?_
 refine SG.region ?_
 refine RL.eff (Wanted.free rfl) (E.box _ rfl rfl rfl) rfl ?_
 rintro _ _ ⟨b2, rfl, rfl⟩
 refine RL.eff (Wanted.free rfl) (E.alloc rfl ze37) rfl ?_
 rintro _ _ ⟨b4, rfl, rfl⟩
 refine RL.nil ?_
 refine SG.seq ?_
 refine SG.region ?_
 refine RL.val (Wanted.free rfl) (V.fieldAddr rfl rfl fo37_0) rfl ?_
 refine RL.val (Wanted.free rfl) (V.load rfl on34 rfl pickX rfl) rfl ?_
 refine RL.val (Wanted.free rfl) (V.move rfl rfl) rfl ?_
 refine RL.val (Wanted.free rfl) (V.indexSl (T := RPeer) (a := na) (j := i) rfl el34.slice rfl rfl memX rfl hi) rfl ?_
 refine RL.eff (Wanted.free rfl) (E.loadElem (j := i) rfl ag26 rfl memX (Clu.p_get hi)) rfl ?_
 rintro _ _ ⟨u12, rfl, rfl⟩
 refine RL.eff (Wanted.free rfl) (E.call rfl go16 rfl (pCamp_ok memX (by omega) (by omega) (by omega) (by omega) (by omega) (by omega) (by omega) (by omega) (by omega))) rfl ?_
 rintro _ _ ⟨u13, a13, c13, rfl, rfl⟩
 refine RL.val (Wanted.free rfl) (V.move rfl rfl) rfl ?_
 refine RL.val (Wanted.free rfl) (V.extract rfl rfl rfl) rfl ?_
 refine RL.val (Wanted.free rfl) (V.extract rfl rfl rfl) rfl ?_
 refine RL.eff (Wanted.free rfl) (E.alloc rfl ze26) rfl ?_
 rintro _ _ ⟨b12, rfl, rfl⟩
 refine RL.openPeer (us := u13) (Pick.rd (T := RPeer) memX) fun ka kn kc wa wn wc xa xn xc hus => ?_
 subst hus
 refine RL.eff (Wanted.free rfl) (E.storeWhole rfl rfl rfl (by rfl) sz26 pickX pv_one (by rfl)) rfl ?_
 rintro _ _ rfl
 refine RL.val (Wanted.free rfl) (V.assign rfl rfl) rfl ?_
 refine RL.nil ?_
 refine SG.seq ?_
 refine SG.region ?_
 refine RL.val (Wanted.free rfl) (V.loadAgg (us := [.slice na nn nc, .slice sa sn sc]) rfl ag37 rfl pickX rfl rfl) rfl ?_
 refine RL.val (Wanted.free rfl) (V.move rfl rfl) rfl ?_
 refine RL.val (Wanted.free rfl) (V.loadAgg (us := pv (campaign (c.p i)).1 (.slice ka kn kc) (.slice wa wn wc) (.slice xa xn xc)) rfl ag26 rfl pickX rfl rfl) rfl ?_
 refine RL.val (Wanted.free rfl) (V.move rfl rfl) rfl ?_
 refine RL.eff (Wanted.free rfl) (E.call rfl go78 rfl (with_ok memX memX memX rfl hi (by omega) (by omega) (by omega))) rfl ?_
 rintro _ _ ⟨u20, rfl, rfl⟩
 refine RL.openClu (cs := u20) (Pick.rd (T := RClu) memX) fun ea en ec fa fn fc hcs => ?_
 subst hcs
 refine RL.eff (Wanted.free rfl) (E.storeWhole rfl rfl rfl (by rfl) sz37 pickX (by first | (simp [Value.oneCell']; done) | (simp [setAt, Value.oneCell']; done)) (by rfl)) rfl ?_
 rintro _ _ rfl
 refine RL.nil ?_
 refine SG.retE (Ret.r1 Try.func35 rfl (.agg rfl ag37 pickX rfl rfl)) ?_ ⟨[.slice ea en ec, .slice fa fn fc], rfl, rfl⟩
 exact entX

set_option maxRecDepth 100000 in
set_option maxHeartbeats 1000000 in
theorem cProp_ok {κ : World} {L : List Assn} {cs : List Value} {c : Clu} (hm : Rd RClu cs c ∈ L) (ho : COk c) {i : Nat} (hi : i < c.nodes.length) {data : List UInt8} :
    Ctr Try.prog 37 #[.agg cs.toArray, vI i, vS data] κ L (fun v M => ∃ cs', v = .agg cs'.toArray ∧ M = Rd RClu cs' (cProp c i data) :: L) := by
 refine Ctr.enter (vs := [.agg cs.toArray, vI i, vS data]) (m := 26) Try.func37 rfl rfl rfl ?_
 refine SG.openClu (Pick.rd hm) fun na nn nc sa sn sc hcs => ?_
 subst hcs
 obtain ⟨n1, n5, i0, i1, t0, t1, ll, lv, lm, vn, mn, c0, c1, mm, dd⟩ := ho.p _ (Clu.p_mem hi)
 have hcn := ho.n
 have hcs := ho.s
 refine SG.seq ?_
 refine SG.region ?_
 refine RL.eff (Wanted.free rfl) (E.box _ rfl rfl rfl) rfl ?_
 rintro _ _ ⟨b3, rfl, rfl⟩
 refine RL.eff (Wanted.free rfl) (E.alloc rfl ze37) rfl ?_
 rintro _ _ ⟨b6, rfl, rfl⟩
 refine RL.nil ?_
 refine SG.seq ?_
 refine SG.region ?_
 refine RL.val (Wanted.free rfl) (V.fieldAddr rfl rfl fo37_0) rfl ?_
 refine RL.val (Wanted.free rfl) (V.load rfl on34 rfl pickX rfl) rfl ?_
 refine RL.val (Wanted.free rfl) (V.move rfl rfl) rfl ?_
 refine RL.val (Wanted.free rfl) (V.indexSl (T := RPeer) (a := na) (j := i) rfl el34.slice rfl rfl memX rfl hi) rfl ?_
 refine RL.eff (Wanted.free rfl) (E.loadElem (j := i) rfl ag26 rfl memX (Clu.p_get hi)) rfl ?_
 rintro _ _ ⟨u14, rfl, rfl⟩
 refine RL.val (Wanted.free rfl) (V.move rfl rfl) rfl ?_
 refine RL.eff (Wanted.free rfl) (E.call rfl go18 rfl (pProp_ok memX (by omega) (by omega) (by omega) (by omega) (by omega) (by omega) (by omega) (by omega) (by omega) (by assumption) (by omega))) rfl ?_
 rintro _ _ ⟨u16, rfl, rfl⟩
 refine RL.val (Wanted.free rfl) (V.move rfl rfl) rfl ?_
 refine RL.val (Wanted.free rfl) (V.extract rfl rfl rfl) rfl ?_
 refine RL.val (Wanted.free rfl) (V.extract rfl rfl rfl) rfl ?_
 refine RL.eff (Wanted.free rfl) (E.alloc rfl ze26) rfl ?_
 rintro _ _ ⟨b13, rfl, rfl⟩
 refine RL.openPeer (us := u16) (Pick.rd (T := RPeer) memX) fun ka kn kc wa wn wc xa xn xc hus => ?_
 subst hus
 refine RL.eff (Wanted.free rfl) (E.storeWhole rfl rfl rfl (by rfl) sz26 pickX pv_one (by rfl)) rfl ?_
 rintro _ _ rfl
 refine RL.val (Wanted.free rfl) (V.assign rfl rfl) rfl ?_
 refine RL.nil ?_
 refine SG.seq ?_
 refine SG.seq ?_
 refine SG.region ?_
 refine RL.val (Wanted.free rfl) (V.move rfl rfl) rfl ?_
 refine RL.cmp (Wanted.free rfl) (V.bin rfl rfl rfl B.neq) rfl (fun h17 => ?_) (fun h17 => ?_)
 ·
  refine RL.nil ?_
  refine SG.cond_true rfl ?_
  refine SG.seq ?_
  refine SG.region ?_
  refine RL.val (Wanted.free rfl) (V.loadAgg (us := [.slice na nn nc, .slice sa sn sc]) rfl ag37 rfl pickX rfl rfl) rfl ?_
  refine RL.eff (Wanted.free rfl) (E.storeWhole rfl rfl rfl (by rfl) sz37 pickX (by first | (simp [Value.oneCell']; done) | (simp [setAt, Value.oneCell']; done)) (by rfl)) rfl ?_
  rintro _ _ rfl
  refine RL.nil ?_
  have hpv : (c.p i).role ≠ 2 ∨ 4000 < data.length := by
   by_cases h1 : (c.p i).role ≠ 2
   ·
    exact .inl h1
   ·
    by_cases h2 : 4000 < data.length
    ·
     exact .inr h2
    ·
     simp only [propV, if_neg h1, if_neg h2] at *; omega
  rw [show cProp c i data = c from if_pos hpv]
  refine SG.ent (Pick.rd (T := RClu) (cs := [.slice na nn nc, .slice sa sn sc]) (y := c) memX) ?_
  refine SG.retE (Ret.r1 Try.func37 rfl (.agg rfl ag37 pickX rfl rfl)) ?_ ⟨[.slice na nn nc, .slice sa sn sc], rfl, rfl⟩
  exact entX
 ·
  refine RL.nil ?_
  refine SG.cond_false rfl ?_
  refine SG.skip ?_
  refine SG.seq ?_
  have hpv : ¬ ((c.p i).role ≠ 2 ∨ 4000 < data.length) := by
   rintro (h | h)
   ·
    simp only [propV, if_pos h] at *; omega
   ·
    simp only [propV] at *; split at * <;> simp_all
  have hpq : propV (c.p i) data = (propose (c.p i) data, 0) := by rw [propV, if_neg (fun h => hpv (.inl h)), if_neg (fun h => hpv (.inr h))]
  refine SG.ent (Sl.nil (T := RMsg)) ?_
  refine SG.region ?_
  refine RL.val (Wanted.free rfl) (V.loadAgg (us := [.slice na nn nc, .slice sa sn sc]) rfl ag37 rfl pickX rfl rfl) rfl ?_
  refine RL.val (Wanted.free rfl) (V.move rfl rfl) rfl ?_
  refine RL.val (Wanted.free rfl) (V.loadAgg (us := pv (propV (c.p i) data).1 (.slice ka kn kc) (.slice wa wn wc) (.slice xa xn xc)) rfl ag26 rfl pickX rfl rfl) rfl ?_
  refine RL.eff (Wanted.free rfl) (E.call rfl go78 rfl (with_ok (p := (propV (c.p i) data).1) (ms := []) memX memX memX rfl hi (by omega) (by omega) (by simp))) rfl ?_
  rintro _ _ ⟨u25, rfl, rfl⟩
  refine RL.openClu (cs := u25) (Pick.rd (T := RClu) memX) fun ea en ec fa fn fc hcs => ?_
  subst hcs
  refine RL.eff (Wanted.free rfl) (E.storeWhole rfl rfl rfl (by rfl) sz37 pickX (by first | (simp [Value.oneCell']; done) | (simp [setAt, Value.oneCell']; done)) (by rfl)) rfl ?_
  rintro _ _ rfl
  refine RL.nil ?_
  rw [hpq]
  rw [show c.put i ((propose (c.p i) data, (0 : Int)).1, []) = cProp c i data from (if_neg hpv).symm]
  refine SG.retE (Ret.r1 Try.func37 rfl (.agg rfl ag37 pickX rfl rfl)) ?_ ⟨[.slice ea en ec, .slice fa fn fc], rfl, rfl⟩
  exact entX

set_option maxRecDepth 100000 in
set_option maxHeartbeats 1000000 in
theorem cBeat_ok {κ : World} {L : List Assn} {cs : List Value} {c : Clu} (hm : Rd RClu cs c ∈ L) (ho : COk c) {i : Nat} (hi : i < c.nodes.length) :
    Ctr Try.prog 39 #[.agg cs.toArray, vI i] κ L (fun v M => ∃ cs', v = .agg cs'.toArray ∧ M = Rd RClu cs' (cBeat c i) :: L) := by
 refine Ctr.enter (vs := [.agg cs.toArray, vI i]) (m := 19) Try.func39 rfl rfl rfl ?_
 refine SG.openClu (Pick.rd hm) fun na nn nc sa sn sc hcs => ?_
 subst hcs
 obtain ⟨n1, n5, i0, i1, t0, t1, ll, lv, lm, vn, mn, c0, c1, mm, dd⟩ := ho.p _ (Clu.p_mem hi)
 have hcn := ho.n
 have hcs := ho.s
 have hbl := beat_len (c.p i)
 refine SG.seq ?_
 refine SG.region ?_
 refine RL.eff (Wanted.free rfl) (E.box _ rfl rfl rfl) rfl ?_
 rintro _ _ ⟨b2, rfl, rfl⟩
 refine RL.eff (Wanted.free rfl) (E.alloc rfl ze37) rfl ?_
 rintro _ _ ⟨b4, rfl, rfl⟩
 refine RL.nil ?_
 refine SG.seq ?_
 refine SG.drawN 15 14 (Blk b2 37 [.slice na nn nc, .slice sa sn sc] :: Sl RPeer na nn nc c.nodes :: Sl RMsg sa sn sc c.sent :: L) wide rfl rfl (by repeat (first | exact Ent.refl _ | (apply Ent.cons; (· repeat (first | exact Pick.here | (refine Pick.sl ?_; (· repeat (first | exact List.Mem.head _ | assumption | apply List.Mem.tail))) | apply Pick.there))) | (refine Ent.trans (Ent.drop _ _) ?_))) ?_
 refine RH.val 0 rfl krX krX krX krX (Wanted.free rfl) (V.loadAgg (us := [.slice na nn nc, .slice sa sn sc]) rfl ag37 rfl pickX rfl rfl) rfl ?_
 refine RH.val 1 rfl krX krX krX krX (Wanted.free rfl) (V.move rfl rfl) rfl ?_
 refine RH.val 2 rfl krX krX krX krX (Wanted.free rfl) (V.fieldAddr rfl rfl fo37_0) rfl ?_
 refine RH.val 3 rfl krX krX krX krX (Wanted.free rfl) (V.load rfl on34 rfl pickX rfl) rfl ?_
 refine RH.val 4 rfl krX krX krX krX (Wanted.free rfl) (V.move rfl rfl) rfl ?_
 refine RH.val 5 rfl krX krX krX krX (Wanted.free rfl) (V.indexSl (T := RPeer) (a := na) (j := i) rfl el34.slice rfl rfl memX rfl hi) rfl ?_
 refine RH.val 7 rfl krX krX krX krX (Wanted.free rfl) (V.fieldAddr rfl rfl fo37_0) rfl ?_
 refine RH.val 8 rfl krX krX krX krX (Wanted.free rfl) (V.load rfl on34 rfl pickX rfl) rfl ?_
 refine RH.val 9 rfl krX krX krX krX (Wanted.free rfl) (V.move rfl rfl) rfl ?_
 refine RH.val 10 rfl krX krX krX krX (Wanted.free rfl) (V.indexSl (T := RPeer) (a := na) (j := i) rfl el34.slice rfl rfl memX rfl hi) rfl ?_
 refine RH.two (i := 6) (j := 11) krX ?_ ?_
 ·
  refine RHone.eff rfl (Wanted.free rfl) (E.loadElem (j := i) rfl ag26 rfl memX (Clu.p_get hi)) rfl ?_
  rintro _ _ ⟨u11, rfl, rfl⟩
  refine ⟨.inr entX, ?_⟩
  refine RH.one (i := 11) krX ?_
  refine RHone.eff rfl (Wanted.free rfl) (E.loadElem (j := i) rfl ag26 rfl memX (Clu.p_get hi)) rfl ?_
  rintro _ _ ⟨u16, rfl, rfl⟩
  refine ⟨.inr entX, ?_⟩
  refine RH.one (i := 12) krX ?_
  refine RHone.eff rfl (Wanted.free rfl) (E.call rfl go21 rfl (pBeat_ok memX (by omega) (by omega) (by omega) (by omega) (by omega) (by omega) (by omega) (by omega) (by omega) (by assumption) (by assumption))) rfl ?_
  rintro _ _ ⟨a15, c15, rfl, rfl⟩
  refine ⟨.inr entX, ?_⟩
  refine RH.one (i := 13) krX ?_
  refine RHone.eff rfl (Wanted.free rfl) (E.call rfl go78 rfl (with_ok (p := c.p i) (ms := beat (c.p i)) memX memX memX rfl hi (by omega) (by omega) (by omega))) rfl ?_
  rintro _ _ ⟨u18, rfl, rfl⟩
  refine ⟨.inr entX, ?_⟩
  refine RH.openClu (cs := u18) (Pick.rd (T := RClu) memX) fun ea en ec fa fn fc hcs => ?_
  subst hcs
  refine RH.one (i := 14) krX ?_
  refine RHone.eff rfl (Wanted.free rfl) (E.storeWhole rfl rfl rfl (by rfl) sz37 pickX (by first | (simp [Value.oneCell']; done) | (simp [setAt, Value.oneCell']; done)) (by rfl)) rfl ?_
  rintro _ _ rfl
  refine ⟨.inl krX, ?_⟩
  refine RH.done krX ?_
  refine SG.retE (Ret.r1 Try.func39 rfl (.agg rfl ag37 pickX rfl rfl)) ?_ ⟨[.slice ea en ec, .slice fa fn fc], rfl, rfl⟩
  exact entX
 ·
  refine RHone.eff rfl (Wanted.free rfl) (E.loadElem (j := i) rfl ag26 rfl memX (Clu.p_get hi)) rfl ?_
  rintro _ _ ⟨u16, rfl, rfl⟩
  refine ⟨.inr entX, ?_⟩
  refine RH.two (i := 6) (j := 12) krX ?_ ?_
  ·
   refine RHone.eff rfl (Wanted.free rfl) (E.loadElem (j := i) rfl ag26 rfl memX (Clu.p_get hi)) rfl ?_
   rintro _ _ ⟨u11, rfl, rfl⟩
   refine ⟨.inr entX, ?_⟩
   refine RH.one (i := 12) krX ?_
   refine RHone.eff rfl (Wanted.free rfl) (E.call rfl go21 rfl (pBeat_ok memX (by omega) (by omega) (by omega) (by omega) (by omega) (by omega) (by omega) (by omega) (by omega) (by assumption) (by assumption))) rfl ?_
   rintro _ _ ⟨a20, c20, rfl, rfl⟩
   refine ⟨.inr entX, ?_⟩
   refine RH.one (i := 13) krX ?_
   refine RHone.eff rfl (Wanted.free rfl) (E.call rfl go78 rfl (with_ok (p := c.p i) (ms := beat (c.p i)) memX memX memX rfl hi (by omega) (by omega) (by omega))) rfl ?_
   rintro _ _ ⟨u18, rfl, rfl⟩
   refine ⟨.inr entX, ?_⟩
   refine RH.openClu (cs := u18) (Pick.rd (T := RClu) memX) fun ea en ec fa fn fc hcs => ?_
   subst hcs
   refine RH.one (i := 14) krX ?_
   refine RHone.eff rfl (Wanted.free rfl) (E.storeWhole rfl rfl rfl (by rfl) sz37 pickX (by first | (simp [Value.oneCell']; done) | (simp [setAt, Value.oneCell']; done)) (by rfl)) rfl ?_
   rintro _ _ rfl
   refine ⟨.inl krX, ?_⟩
   refine RH.done krX ?_
   refine SG.retE (Ret.r1 Try.func39 rfl (.agg rfl ag37 pickX rfl rfl)) ?_ ⟨[.slice ea en ec, .slice fa fn fc], rfl, rfl⟩
   exact entX
  ·
   refine RHone.eff rfl (Wanted.free rfl) (E.call rfl go21 rfl (pBeat_ok memX (by omega) (by omega) (by omega) (by omega) (by omega) (by omega) (by omega) (by omega) (by omega) (by assumption) (by assumption))) rfl ?_
   rintro _ _ ⟨a23, c23, rfl, rfl⟩
   refine ⟨.inr entX, ?_⟩
   refine RH.one (i := 6) krX ?_
   refine RHone.eff rfl (Wanted.free rfl) (E.loadElem (j := i) rfl ag26 rfl memX (Clu.p_get hi)) rfl ?_
   rintro _ _ ⟨u11, rfl, rfl⟩
   refine ⟨.inr entX, ?_⟩
   refine RH.one (i := 13) krX ?_
   refine RHone.eff rfl (Wanted.free rfl) (E.call rfl go78 rfl (with_ok (p := c.p i) (ms := beat (c.p i)) memX memX memX rfl hi (by omega) (by omega) (by omega))) rfl ?_
   rintro _ _ ⟨u18, rfl, rfl⟩
   refine ⟨.inr entX, ?_⟩
   refine RH.openClu (cs := u18) (Pick.rd (T := RClu) memX) fun ea en ec fa fn fc hcs => ?_
   subst hcs
   refine RH.one (i := 14) krX ?_
   refine RHone.eff rfl (Wanted.free rfl) (E.storeWhole rfl rfl rfl (by rfl) sz37 pickX (by first | (simp [Value.oneCell']; done) | (simp [setAt, Value.oneCell']; done)) (by rfl)) rfl ?_
   rintro _ _ rfl
   refine ⟨.inl krX, ?_⟩
   refine RH.done krX ?_
   refine SG.retE (Ret.r1 Try.func39 rfl (.agg rfl ag37 pickX rfl rfl)) ?_ ⟨[.slice ea en ec, .slice fa fn fc], rfl, rfl⟩
   exact entX

set_option maxRecDepth 100000 in
set_option maxHeartbeats 1000000 in
theorem cRest_ok {κ : World} {L : List Assn} {cs : List Value} {c : Clu} (hm : Rd RClu cs c ∈ L) (ho : COk c) {i : Nat} (hi : i < c.nodes.length) :
    Ctr Try.prog 85 #[.agg cs.toArray, vI i] κ L (fun v M => ∃ cs', v = .agg cs'.toArray ∧ M = Rd RClu cs' (cRest c i) :: L) := by
 refine Ctr.enter (vs := [.agg cs.toArray, vI i]) (m := 14) Try.func85 rfl rfl rfl ?_
 refine SG.openClu (Pick.rd hm) fun na nn nc sa sn sc hcs => ?_
 subst hcs
 obtain ⟨n1, n5, i0, i1, t0, t1, ll, lv, lm, vn, mn, c0, c1, mm, dd⟩ := ho.p _ (Clu.p_mem hi)
 have hcn := ho.n
 have hcs := ho.s
 refine SG.ent (Sl.nil (T := RMsg)) ?_
 refine SG.seq ?_
 refine SG.region ?_
 refine RL.eff (Wanted.free rfl) (E.box _ rfl rfl rfl) rfl ?_
 rintro _ _ ⟨b2, rfl, rfl⟩
 refine RL.eff (Wanted.free rfl) (E.alloc rfl ze37) rfl ?_
 rintro _ _ ⟨b4, rfl, rfl⟩
 refine RL.nil ?_
 refine SG.seq ?_
 refine SG.drawN 10 9 (Blk b2 37 [.slice na nn nc, .slice sa sn sc] :: Sl RPeer na nn nc c.nodes :: Sl RMsg sa sn sc c.sent :: L) wide rfl rfl (by repeat (first | exact Ent.refl _ | (apply Ent.cons; (· repeat (first | exact Pick.here | (refine Pick.sl ?_; (· repeat (first | exact List.Mem.head _ | assumption | apply List.Mem.tail))) | apply Pick.there))) | (refine Ent.trans (Ent.drop _ _) ?_))) ?_
 refine RH.val 0 rfl krX krX krX krX (Wanted.free rfl) (V.loadAgg (us := [.slice na nn nc, .slice sa sn sc]) rfl ag37 rfl pickX rfl rfl) rfl ?_
 refine RH.val 1 rfl krX krX krX krX (Wanted.free rfl) (V.move rfl rfl) rfl ?_
 refine RH.val 2 rfl krX krX krX krX (Wanted.free rfl) (V.fieldAddr rfl rfl fo37_0) rfl ?_
 refine RH.val 3 rfl krX krX krX krX (Wanted.free rfl) (V.load rfl on34 rfl pickX rfl) rfl ?_
 refine RH.val 4 rfl krX krX krX krX (Wanted.free rfl) (V.move rfl rfl) rfl ?_
 refine RH.val 5 rfl krX krX krX krX (Wanted.free rfl) (V.indexSl (T := RPeer) (a := na) (j := i) rfl el34.slice rfl rfl memX rfl hi) rfl ?_
 refine RH.one (i := 6) krX ?_
 refine RHone.eff rfl (Wanted.free rfl) (E.loadElem (j := i) rfl ag26 rfl memX (Clu.p_get hi)) rfl ?_
 rintro _ _ ⟨u11, rfl, rfl⟩
 refine ⟨.inr entX, ?_⟩
 refine RH.one (i := 7) krX ?_
 refine RHone.eff rfl (Wanted.free rfl) (E.call rfl go23 rfl (pRestart_ok memX (by omega) (by omega) (by omega))) rfl ?_
 rintro _ _ ⟨u10, rfl, rfl⟩
 refine ⟨.inr entX, ?_⟩
 refine RH.one (i := 8) krX ?_
 refine RHone.eff rfl (Wanted.free rfl) (E.call rfl go78 rfl (with_ok (p := restart (c.p i)) (ms := []) memX memX memX rfl hi (by omega) (by omega) (by simp))) rfl ?_
 rintro _ _ ⟨u13, rfl, rfl⟩
 refine ⟨.inr entX, ?_⟩
 refine RH.openClu (cs := u13) (Pick.rd (T := RClu) memX) fun ea en ec fa fn fc hcs => ?_
 subst hcs
 refine RH.one (i := 9) krX ?_
 refine RHone.eff rfl (Wanted.free rfl) (E.storeWhole rfl rfl rfl (by rfl) sz37 pickX (by first | (simp [Value.oneCell']; done) | (simp [setAt, Value.oneCell']; done)) (by rfl)) rfl ?_
 rintro _ _ rfl
 refine ⟨.inl krX, ?_⟩
 refine RH.done krX ?_
 refine SG.retE (Ret.r1 Try.func85 rfl (.agg rfl ag37 pickX rfl rfl)) ?_ ⟨[.slice ea en ec, .slice fa fn fc], rfl, rfl⟩
 exact entX

theorem Clu.m_get {c : Clu} {k : Nat} (h : k < c.sent.length) : c.sent[k]? = some (c.sent.getD k default) := by
  rw [List.getD_eq_getElem?_getD, List.getElem?_eq_getElem h]; rfl
set_option maxRecDepth 100000 in
set_option maxHeartbeats 1000000 in
theorem cArr_ok {κ : World} {L : List Assn} {cs : List Value} {c : Clu} (hm : Rd RClu cs c ∈ L) (ho : COk c) {k : Nat} (hk : k < c.sent.length) :
    Ctr Try.prog 69 #[.agg cs.toArray, vI k] κ L (fun v M => ∃ cs', v = .agg cs'.toArray ∧ M = Rd RClu cs' (cArr c k) :: L) := by
 refine Ctr.enter (vs := [.agg cs.toArray, vI k]) (m := 42) Try.func69 rfl rfl rfl ?_
 obtain ⟨hmq, hq0, hq1⟩ := ho.m _ (sent_get hk)
 have hget := Clu.m_get hk
 have hgo : cArr c k = c.put (c.sent.getD k default).to.toNat (handle (c.p (c.sent.getD k default).to.toNat) (c.sent.getD k default)) := rfl
 rw [hgo]
 generalize c.sent.getD k default = q at *
 have hi : q.to.toNat < c.nodes.length := by omega
 obtain ⟨i, hqi⟩ := Int.eq_ofNat_of_zero_le hq0
 rw [hqi, Int.toNat_natCast] at hi ⊢
 refine SG.openClu (Pick.rd hm) fun na nn nc sa sn sc hcs => ?_
 subst hcs
 obtain ⟨n1, n5, i0, i1, t0, t1, ll, lv, lm, vn, mn, c0, c1, mm, dd⟩ := ho.p _ (Clu.p_mem hi)
 have hcn := ho.n
 have hcs := ho.s
 have hpk := ho.p _ (Clu.p_mem hi)
 refine SG.sl (T := RPeer) (a := na) memX fun hnl _ _ => ?_
 refine SG.seq ?_
 refine SG.region ?_
 refine RL.eff (Wanted.free rfl) (E.box _ rfl rfl rfl) rfl ?_
 rintro _ _ ⟨b2, rfl, rfl⟩
 refine RL.eff (Wanted.free rfl) (E.alloc rfl ze37) rfl ?_
 rintro _ _ ⟨b4, rfl, rfl⟩
 refine RL.nil ?_
 refine SG.seq ?_
 refine SG.region ?_
 refine RL.val (Wanted.free rfl) (V.fieldAddr rfl rfl fo37_1) rfl ?_
 refine RL.val (Wanted.free rfl) (V.load rfl on35 rfl pickX rfl) rfl ?_
 refine RL.val (Wanted.free rfl) (V.move rfl rfl) rfl ?_
 refine RL.val (Wanted.free rfl) (V.indexSl (T := RMsg) (a := sa) (j := k) rfl el35.slice rfl rfl memX rfl hk) rfl ?_
 refine RL.eff (Wanted.free rfl) (E.loadElem (j := k) rfl ag50 rfl memX hget) rfl ?_
 rintro _ _ ⟨u12, rfl, rfl⟩
 refine RL.eff (Wanted.free rfl) (E.alloc rfl ze50) rfl ?_
 rintro _ _ ⟨b5, rfl, rfl⟩
 refine RL.openMsg (us := u12) (Pick.rd (show Rd RMsg u12 _ ∈ _ from memX)) fun ya yn yc hy => ?_
 subst hy
 refine RL.eff (Wanted.free rfl) (E.storeWhole rfl rfl rfl (by rfl) sz50 pickX mv_one (by rfl)) rfl ?_
 rintro _ _ rfl
 refine RL.nil ?_
 refine SG.seq ?_
 refine SG.seq ?_
 refine SG.region ?_
 refine RL.val (Wanted.free rfl) (V.fieldAddr rfl rfl fo50_2) rfl ?_
 refine RL.val (Wanted.free rfl) (V.load rfl on3 rfl pickX rfl) rfl ?_
 refine RL.cmpF (Wanted.free rfl) (V.bin rfl rfl rfl B.lss) rfl (by omega) ?_
 refine RL.val (Wanted.free rfl) (V.move rfl rfl) rfl ?_
 refine RL.val (Wanted.yes rfl rfl rfl rfl) (V.fieldAddr rfl rfl fo50_2) rfl ?_
 refine RL.val (Wanted.yes rfl rfl rfl rfl) (V.load rfl on3 rfl pickX rfl) rfl ?_
 refine RL.val (Wanted.yes rfl rfl rfl rfl) (V.fieldAddr rfl rfl fo37_0) rfl ?_
 refine RL.val (Wanted.yes rfl rfl rfl rfl) (V.load rfl on34 rfl pickX rfl) rfl ?_
 refine RL.val (Wanted.yes rfl rfl rfl rfl) (V.len rfl rfl el34.under rfl) rfl ?_
 refine RL.cmpF (Wanted.yes rfl rfl rfl rfl) (V.bin rfl rfl rfl B.geq) rfl (by omega) ?_
 refine RL.val (Wanted.free rfl) (V.pick_false rfl rfl rfl) rfl ?_
 refine RL.nil ?_
 refine SG.cond_false rfl ?_
 refine SG.skip ?_
 refine SG.seq ?_
 refine SG.drawN 14 12 (Blk b5 50 (mv q (.slice ya yn yc)) :: Rd RMsg (mv q (.slice ya yn yc)) q :: Blk b2 37 [.slice na nn nc, .slice sa sn sc] :: Sl RPeer na nn nc c.nodes :: Sl RMsg sa sn sc c.sent :: L) wide rfl rfl (by repeat (first | exact Ent.refl _ | (apply Ent.cons; (· repeat (first | exact Pick.here | (refine Pick.sl ?_; (· repeat (first | exact List.Mem.head _ | assumption | apply List.Mem.tail))) | apply Pick.there))) | (refine Ent.trans (Ent.drop _ _) ?_))) ?_
 refine RH.val 0 rfl krX krX krX krX (Wanted.free rfl) (V.fieldAddr rfl rfl fo37_0) rfl ?_
 refine RH.val 1 rfl krX krX krX krX (Wanted.free rfl) (V.load rfl on34 rfl pickX rfl) rfl ?_
 refine RH.val 2 rfl krX krX krX krX (Wanted.free rfl) (V.fieldAddr rfl rfl fo50_2) rfl ?_
 refine RH.val 3 rfl krX krX krX krX (Wanted.free rfl) (V.load rfl on3 rfl pickX rfl) rfl ?_
 refine RH.val 4 rfl krX krX krX krX (Wanted.free rfl) (V.indexSl (T := RPeer) (a := na) (j := i) rfl el34.slice rfl rfl memX hqi hi) rfl ?_
 refine RH.val 6 rfl krX krX krX krX (Wanted.free rfl) (V.loadAgg (us := mv q (.slice ya yn yc)) rfl ag50 rfl pickX rfl rfl) rfl ?_
 refine RH.two (i := 5) (j := 11) krX ?_ ?_
 ·
  refine RHone.eff rfl (Wanted.free rfl) (E.loadElem (j := i) rfl ag26 rfl memX (Clu.p_get hi)) rfl ?_
  rintro _ _ ⟨u31, rfl, rfl⟩
  refine ⟨.inr entX, ?_⟩
  refine RH.two (i := 7) (j := 11) krX ?_ ?_
  ·
   refine RHone.eff rfl (Wanted.free rfl) (E.call rfl go30 rfl (handle_okw (p := c.p i) (m := q) memX memX hpk hmq)) rfl ?_
   rintro _ _ ⟨u33, a33, c33, rfl, rfl⟩
   refine ⟨.inr entX, ?_⟩
   refine RH.val 8 rfl krX krX krX krX (Wanted.free rfl) (V.move rfl rfl) rfl ?_
   refine RH.val 9 rfl krX krX krX krX (Wanted.free rfl) (V.extract rfl rfl rfl) rfl ?_
   refine RH.pure 10 rfl krX krX krX krX (Wanted.free rfl) (V.extract rfl rfl rfl) rfl ?_
   refine RH.one (i := 11) krX ?_
   refine RHone.eff rfl (Wanted.free rfl) (E.alloc rfl ze26) rfl ?_
   rintro _ _ ⟨b6, rfl, rfl⟩
   refine ⟨.inr entX, ?_⟩
   refine RH.openPeer (us := u33) (Pick.rd (T := RPeer) memX) fun ka kn kc wa wn wc xa xn xc hus => ?_
   subst hus
   refine RH.one (i := 12) krX ?_
   refine RHone.eff rfl (Wanted.free rfl) (E.storeWhole rfl rfl rfl (by rfl) sz26 pickX pv_one (by rfl)) rfl ?_
   rintro _ _ rfl
   refine ⟨.inl krX, ?_⟩
   refine RH.pure 13 rfl krX krX krX krX (Wanted.free rfl) (V.assign rfl rfl) rfl ?_
   refine RH.done krX ?_
   refine SG.seq ?_
   refine SG.region ?_
   refine RL.val (Wanted.free rfl) (V.loadAgg (us := [.slice na nn nc, .slice sa sn sc]) rfl ag37 rfl pickX rfl rfl) rfl ?_
   refine RL.val (Wanted.free rfl) (V.fieldAddr rfl rfl fo50_2) rfl ?_
   refine RL.val (Wanted.free rfl) (V.load rfl on3 rfl pickX rfl) rfl ?_
   refine RL.val (Wanted.free rfl) (V.loadAgg (us := pv (handle (c.p i) q).1 (.slice ka kn kc) (.slice wa wn wc) (.slice xa xn xc)) rfl ag26 rfl pickX rfl rfl) rfl ?_
   refine RL.val (Wanted.free rfl) (V.move rfl rfl) rfl ?_
   refine RL.eff (Wanted.free rfl) (E.call rfl go78 rfl (with_ok (p := (handle (c.p i) q).1) (ms := (handle (c.p i) q).2) memX memX memX hqi hi (by omega) (by omega) (by have := handle_len (c.p i) q; omega))) rfl ?_
   rintro _ _ ⟨u41, rfl, rfl⟩
   refine RL.openClu (cs := u41) (Pick.rd (T := RClu) memX) fun ea en ec fa fn fc hcs => ?_
   subst hcs
   refine RL.eff (Wanted.free rfl) (E.storeWhole rfl rfl rfl (by rfl) sz37 pickX (by first | (simp [Value.oneCell']; done) | (simp [setAt, Value.oneCell']; done)) (by rfl)) rfl ?_
   rintro _ _ rfl
   refine RL.nil ?_
   refine SG.retE (Ret.r1 Try.func69 rfl (.agg rfl ag37 pickX rfl rfl)) ?_ ⟨[.slice ea en ec, .slice fa fn fc], rfl, rfl⟩
   exact entX
  ·
   refine RHone.eff rfl (Wanted.free rfl) (E.alloc rfl ze26) rfl ?_
   rintro _ _ ⟨b6, rfl, rfl⟩
   refine ⟨.inr entX, ?_⟩
   refine RH.one (i := 7) krX ?_
   refine RHone.eff rfl (Wanted.free rfl) (E.call rfl go30 rfl (handle_okw (p := c.p i) (m := q) memX memX hpk hmq)) rfl ?_
   rintro _ _ ⟨u33, a33, c33, rfl, rfl⟩
   refine ⟨.inr entX, ?_⟩
   refine RH.val 8 rfl krX krX krX krX (Wanted.free rfl) (V.move rfl rfl) rfl ?_
   refine RH.val 9 rfl krX krX krX krX (Wanted.free rfl) (V.extract rfl rfl rfl) rfl ?_
   refine RH.pure 10 rfl krX krX krX krX (Wanted.free rfl) (V.extract rfl rfl rfl) rfl ?_
   refine RH.openPeer (us := u33) (Pick.rd (T := RPeer) memX) fun ka kn kc wa wn wc xa xn xc hus => ?_
   subst hus
   refine RH.one (i := 12) krX ?_
   refine RHone.eff rfl (Wanted.free rfl) (E.storeWhole rfl rfl rfl (by rfl) sz26 pickX pv_one (by rfl)) rfl ?_
   rintro _ _ rfl
   refine ⟨.inl krX, ?_⟩
   refine RH.pure 13 rfl krX krX krX krX (Wanted.free rfl) (V.assign rfl rfl) rfl ?_
   refine RH.done krX ?_
   refine SG.seq ?_
   refine SG.region ?_
   refine RL.val (Wanted.free rfl) (V.loadAgg (us := [.slice na nn nc, .slice sa sn sc]) rfl ag37 rfl pickX rfl rfl) rfl ?_
   refine RL.val (Wanted.free rfl) (V.fieldAddr rfl rfl fo50_2) rfl ?_
   refine RL.val (Wanted.free rfl) (V.load rfl on3 rfl pickX rfl) rfl ?_
   refine RL.val (Wanted.free rfl) (V.loadAgg (us := pv (handle (c.p i) q).1 (.slice ka kn kc) (.slice wa wn wc) (.slice xa xn xc)) rfl ag26 rfl pickX rfl rfl) rfl ?_
   refine RL.val (Wanted.free rfl) (V.move rfl rfl) rfl ?_
   refine RL.eff (Wanted.free rfl) (E.call rfl go78 rfl (with_ok (p := (handle (c.p i) q).1) (ms := (handle (c.p i) q).2) memX memX memX hqi hi (by omega) (by omega) (by have := handle_len (c.p i) q; omega))) rfl ?_
   rintro _ _ ⟨u41, rfl, rfl⟩
   refine RL.openClu (cs := u41) (Pick.rd (T := RClu) memX) fun ea en ec fa fn fc hcs => ?_
   subst hcs
   refine RL.eff (Wanted.free rfl) (E.storeWhole rfl rfl rfl (by rfl) sz37 pickX (by first | (simp [Value.oneCell']; done) | (simp [setAt, Value.oneCell']; done)) (by rfl)) rfl ?_
   rintro _ _ rfl
   refine RL.nil ?_
   refine SG.retE (Ret.r1 Try.func69 rfl (.agg rfl ag37 pickX rfl rfl)) ?_ ⟨[.slice ea en ec, .slice fa fn fc], rfl, rfl⟩
   exact entX
 ·
  refine RHone.eff rfl (Wanted.free rfl) (E.alloc rfl ze26) rfl ?_
  rintro _ _ ⟨b6, rfl, rfl⟩
  refine ⟨.inr entX, ?_⟩
  refine RH.one (i := 5) krX ?_
  refine RHone.eff rfl (Wanted.free rfl) (E.loadElem (j := i) rfl ag26 rfl memX (Clu.p_get hi)) rfl ?_
  rintro _ _ ⟨u31, rfl, rfl⟩
  refine ⟨.inr entX, ?_⟩
  refine RH.one (i := 7) krX ?_
  refine RHone.eff rfl (Wanted.free rfl) (E.call rfl go30 rfl (handle_okw (p := c.p i) (m := q) memX memX hpk hmq)) rfl ?_
  rintro _ _ ⟨u33, a33, c33, rfl, rfl⟩
  refine ⟨.inr entX, ?_⟩
  refine RH.val 8 rfl krX krX krX krX (Wanted.free rfl) (V.move rfl rfl) rfl ?_
  refine RH.val 9 rfl krX krX krX krX (Wanted.free rfl) (V.extract rfl rfl rfl) rfl ?_
  refine RH.pure 10 rfl krX krX krX krX (Wanted.free rfl) (V.extract rfl rfl rfl) rfl ?_
  refine RH.openPeer (us := u33) (Pick.rd (T := RPeer) memX) fun ka kn kc wa wn wc xa xn xc hus => ?_
  subst hus
  refine RH.one (i := 12) krX ?_
  refine RHone.eff rfl (Wanted.free rfl) (E.storeWhole rfl rfl rfl (by rfl) sz26 pickX pv_one (by rfl)) rfl ?_
  rintro _ _ rfl
  refine ⟨.inl krX, ?_⟩
  refine RH.pure 13 rfl krX krX krX krX (Wanted.free rfl) (V.assign rfl rfl) rfl ?_
  refine RH.done krX ?_
  refine SG.seq ?_
  refine SG.region ?_
  refine RL.val (Wanted.free rfl) (V.loadAgg (us := [.slice na nn nc, .slice sa sn sc]) rfl ag37 rfl pickX rfl rfl) rfl ?_
  refine RL.val (Wanted.free rfl) (V.fieldAddr rfl rfl fo50_2) rfl ?_
  refine RL.val (Wanted.free rfl) (V.load rfl on3 rfl pickX rfl) rfl ?_
  refine RL.val (Wanted.free rfl) (V.loadAgg (us := pv (handle (c.p i) q).1 (.slice ka kn kc) (.slice wa wn wc) (.slice xa xn xc)) rfl ag26 rfl pickX rfl rfl) rfl ?_
  refine RL.val (Wanted.free rfl) (V.move rfl rfl) rfl ?_
  refine RL.eff (Wanted.free rfl) (E.call rfl go78 rfl (with_ok (p := (handle (c.p i) q).1) (ms := (handle (c.p i) q).2) memX memX memX hqi hi (by omega) (by omega) (by have := handle_len (c.p i) q; omega))) rfl ?_
  rintro _ _ ⟨u41, rfl, rfl⟩
  refine RL.openClu (cs := u41) (Pick.rd (T := RClu) memX) fun ea en ec fa fn fc hcs => ?_
  subst hcs
  refine RL.eff (Wanted.free rfl) (E.storeWhole rfl rfl rfl (by rfl) sz37 pickX (by first | (simp [Value.oneCell']; done) | (simp [setAt, Value.oneCell']; done)) (by rfl)) rfl ?_
  rintro _ _ rfl
  refine RL.nil ?_
  refine SG.retE (Ret.r1 Try.func69 rfl (.agg rfl ag37 pickX rfl rfl)) ?_ ⟨[.slice ea en ec, .slice fa fn fc], rfl, rfl⟩
  exact entX

end Go.Proofs.Ytilcnglcflohoaa
