/- The walk of ReplicaModel. -/
import Derived.Test.YtilcnglcflohoaaRefc
namespace Go.Proofs.Ytilcnglcflohoaa
open Go.Wk Go.Rp

theorem newV_nil (i n : Int) : (newV i n).1.log = [] ∧ (newV i n).1.votes = [] ∧ (newV i n).1.mtch = [] := by
  unfold newV; split <;> exact ⟨rfl, rfl, rfl⟩
theorem propV_ok (p : Peer) (d : List UInt8) : (propV p d) = propV p d := rfl
set_option maxRecDepth 100000 in
set_option maxHeartbeats 2000000 in
theorem model_law {κ : World} {L : List Assn} {n : Int} (hn : inInt n) {a : Option Addr} {k cc : Nat} {l : List Int} (hm : Sl RI a k cc l ∈ L) {id nn0 : Int} :
    Ctr Try.prog 3 #[vI n, .slice a k cc, vI id, vI nn0] κ L (fun v M => v = vB true ∧ M = L) := by
  refine Ctr.enter (vs := [vI n, .slice a k cc, vI id, vI nn0]) (m := 143) Try.func3 rfl rfl rfl ?_
  refine SG.seq ?_
  refine SG.region ?_
  refine RL.val (Wanted.free rfl) (V.assign rfl rfl) rfl ?_
  refine RL.nil ?_
  refine SG.seq ?_
  refine SG.region ?_
  refine RL.val (Wanted.free rfl) (V.move rfl rfl) rfl ?_
  refine RL.val (Wanted.free rfl) (V.move rfl rfl) rfl ?_
  refine RL.eff (Wanted.free rfl) (E.call rfl go12 rfl (pNew_ok)) rfl ?_
  rintro _ _ ⟨rfl, hM⟩
  rw [hM]
  refine RL.ent (RPeer.nil (p := (newV id nn0).1) (newV_nil id nn0).1 (newV_nil id nn0).2.1 (newV_nil id nn0).2.2) ?_
  refine RL.val (Wanted.free rfl) (V.move rfl rfl) rfl ?_
  refine RL.val (Wanted.free rfl) (V.extract rfl rfl rfl) rfl ?_
  refine RL.val (Wanted.free rfl) (V.extract rfl rfl rfl) rfl ?_
  refine RL.eff (Wanted.free rfl) (E.alloc rfl ze26) rfl ?_
  rintro _ _ ⟨b9, rfl, rfl⟩
  refine RL.eff (Wanted.free rfl) (E.storeWhole rfl rfl rfl (by rfl) sz26 (by repeat (first | exact Pick.here | assumption | apply Pick.there)) pv_one (by rfl)) rfl ?_
  rintro _ _ rfl
  refine RL.val (Wanted.free rfl) (V.assign rfl rfl) rfl ?_
  refine RL.nil ?_
  refine SG.seq ?_
  refine SG.region ?_
  refine RL.val (Wanted.free rfl) (V.move rfl rfl) rfl ?_
  refine RL.val (Wanted.free rfl) (V.move rfl rfl) rfl ?_
  refine RL.eff (Wanted.free rfl) (E.call rfl go13 rfl (rNew_ok)) rfl ?_
  rintro _ _ ⟨rfl, rfl⟩
  refine RL.val (Wanted.free rfl) (V.move rfl rfl) rfl ?_
  refine RL.val (Wanted.free rfl) (V.extract rfl rfl rfl) rfl ?_
  refine RL.val (Wanted.free rfl) (V.extract rfl rfl rfl) rfl ?_
  refine RL.eff (Wanted.free rfl) (E.alloc rfl ze26) rfl ?_
  rintro _ _ ⟨b11, rfl, rfl⟩
  refine RL.eff (Wanted.free rfl) (E.storeWhole rfl rfl rfl (by rfl) sz26 (by repeat (first | exact Pick.here | assumption | apply Pick.there)) pv_one (by rfl)) rfl ?_
  rintro _ _ rfl
  refine RL.val (Wanted.free rfl) (V.assign rfl rfl) rfl ?_
  refine RL.nil ?_
  refine SG.seq ?_
  refine SG.seq ?_
  refine SG.region ?_
  refine RL.val (Wanted.free rfl) (V.loadAgg (us := pv (newV id nn0).1 (.slice none 0 0) (.slice none 0 0) (.slice none 0 0)) rfl ag26 rfl (by repeat (first | exact Pick.here | assumption | apply Pick.there)) rfl rfl) rfl ?_
  refine RL.val (Wanted.free rfl) (V.loadAgg (us := pv (newV id nn0).1 (.slice none 0 0) (.slice none 0 0) (.slice none 0 0)) rfl ag26 rfl (by repeat (first | exact Pick.here | assumption | apply Pick.there)) rfl rfl) rfl ?_
  refine RL.eff (Wanted.free rfl) (E.call rfl go14 rfl (same_ok (us := pv (newV id nn0).1 (.slice none 0 0) (.slice none 0 0) (.slice none 0 0)) (us' := pv (newV id nn0).1 (.slice none 0 0) (.slice none 0 0) (.slice none 0 0)) (p := (newV id nn0).1) (p' := (newV id nn0).1) (by repeat (first | exact List.Mem.head _ | assumption | apply List.Mem.tail)) (by repeat (first | exact List.Mem.head _ | assumption | apply List.Mem.tail)) rfl)) rfl ?_
  rintro _ _ ⟨rfl, rfl⟩
  refine RL.val (Wanted.free rfl) (V.not rfl rfl) rfl ?_
  refine RL.val (Wanted.free rfl) (V.move rfl rfl) rfl ?_
  refine RL.val (Wanted.yes rfl rfl rfl rfl) (V.move rfl rfl) rfl ?_
  refine RL.val (Wanted.yes rfl rfl rfl rfl) (V.move rfl rfl) rfl ?_
  refine RL.cmpF (Wanted.yes rfl rfl rfl rfl) (V.bin rfl rfl rfl B.neq) rfl (fun h => h rfl) ?_
  refine RL.val (Wanted.free rfl) (V.pick_false rfl rfl rfl) rfl ?_
  refine RL.nil ?_
  refine SG.cond_false rfl ?_
  refine SG.skip ?_
  refine SG.seq ?_
  refine SG.region ?_
  refine RL.val (Wanted.free rfl) (V.move rfl rfl) rfl ?_
  refine RL.val (Wanted.free rfl) (V.move rfl rfl) rfl ?_
  refine RL.eff (Wanted.free rfl) (E.call rfl go15 rfl (run_ok hn (by repeat (first | exact List.Mem.head _ | assumption | apply List.Mem.tail)))) rfl ?_
  rintro _ _ ⟨a5, c5, rfl, rfl⟩
  obtain ⟨N, G, h1, h5, hG, hHl, hH⟩ := runV_facts n l
  generalize runV n l = H at hHl hH ⊢
  refine RL.val (Wanted.free rfl) (V.move rfl rfl) rfl ?_
  refine RL.val (Wanted.free rfl) (V.extract rfl rfl rfl) rfl ?_
  refine RL.val (Wanted.free rfl) (V.extract rfl rfl rfl) rfl ?_
  refine RL.val (Wanted.free rfl) (V.assign rfl rfl) rfl ?_
  refine RL.val (Wanted.free rfl) (V.assign rfl rfl) rfl ?_
  refine RL.nil ?_
  refine SG.seq ?_
  refine SG.seq ?_
  refine SG.region ?_
  refine RL.val (Wanted.free rfl) (V.move rfl rfl) rfl ?_
  refine RL.val (Wanted.free rfl) (V.not rfl rfl) rfl ?_
  refine RL.nil ?_
  refine SG.cond_false rfl ?_
  refine SG.skip ?_
  refine SG.seq ?_
  refine SG.seq ?_
  refine SG.region ?_
  refine RL.val (Wanted.free rfl) (V.assign rfl rfl) rfl ?_
  refine RL.nil ?_
  refine SG.block ?_
  refine SG.weaken (SG.loop2 (fun m al M => ∃ i : Nat, i ≤ H.length ∧ m = H.length - i ∧ al = [(0, vI n), (1, .slice a k cc), (8, vB false), (13, .slice a5 H.length c5), (14, vB true), (15, vI i)] ∧ M = Sl RClu a5 H.length c5 H :: L) (m0 := _) ⟨0, by omega, rfl, rfl, rfl⟩ ?_) ?_ ?_
  rotate_left
  · repeat (first | exact EnvLe.nil _ | refine EnvLe.cons rfl ?_)
  · repeat (first | exact Ent.refl _ | (apply Ent.cons; (· repeat (first | exact Pick.here | (refine Pick.sl ?_; (· repeat (first | exact List.Mem.head _ | assumption | apply List.Mem.tail))) | apply Pick.there))) | (refine Ent.trans (Ent.drop _ _) ?_))
  rintro _ _ _ ⟨i, hi, rfl, rfl, rfl⟩ ih0
  refine SG.seq ?_
  refine SG.seq ?_
  refine SG.region ?_
  refine RL.val (Wanted.free rfl) (V.move rfl rfl) rfl ?_
  refine RL.val (Wanted.free rfl) (V.move rfl rfl) rfl ?_
  refine RL.val (Wanted.free rfl) (V.len rfl rfl el31.under rfl) rfl ?_
  refine RL.cmp (Wanted.free rfl) (V.bin rfl rfl rfl B.lss) rfl (fun h39 => ?_) (fun h39 => ?_)
  · skip
    refine RL.nil ?_
    refine SG.cond_true rfl ?_
    refine SG.skip ?_
    refine SG.seq ?_
    refine SG.block ?_
    refine SG.seq ?_
    refine SG.region ?_
    refine RL.val (Wanted.free rfl) (V.assign rfl rfl) rfl ?_
    refine RL.nil ?_
    refine SG.block ?_
    refine SG.weaken (SG.loop2 (fun m0 al M => ∃ j : Nat, j ≤ N ∧ m0 = N - j ∧ al = [(0, vI n), (1, .slice a k cc), (8, vB false), (13, .slice a5 H.length c5), (14, vB true), (15, vI i), (16, vI j)] ∧ M = Sl RClu a5 H.length c5 H :: L) (m0 := _) ⟨0, by omega, rfl, rfl, rfl⟩ ?_) ?_ ?_
    rotate_left
    · repeat (first | exact EnvLe.nil _ | refine EnvLe.cons rfl ?_)
    · repeat (first | exact Ent.refl _ | (apply Ent.cons; (· repeat (first | exact Pick.here | (refine Pick.sl ?_; (· repeat (first | exact List.Mem.head _ | assumption | apply List.Mem.tail))) | apply Pick.there))) | (refine Ent.trans (Ent.drop _ _) ?_))
    rintro _ _ _ ⟨j, hj, rfl, rfl, rfl⟩ ih1
    refine SG.seq ?_
    refine SG.seq ?_
    obtain ⟨c, hc⟩ : ∃ c, H[i]? = some c := ⟨_, List.getElem?_eq_getElem (by omega)⟩
    have hHc := hH _ _ hc
    refine SG.elemClu (l := H) (a := a5) (j := i) (by repeat (first | exact List.Mem.head _ | assumption | apply List.Mem.tail)) hc fun na nn nc sa sn sc => ?_
    refine SG.sl (T := RPeer) (a := na) (l := c.nodes) (by repeat (first | exact List.Mem.head _ | assumption | apply List.Mem.tail)) fun hnn _ _ => ?_
    rw [hHc.len] at hnn
    subst hnn
    refine SG.region ?_
    refine RL.val (Wanted.free rfl) (V.move rfl rfl) rfl ?_
    refine RL.val (Wanted.free rfl) (V.move rfl rfl) rfl ?_
    refine RL.val (Wanted.free rfl) (V.move rfl rfl) rfl ?_
    refine RL.val (Wanted.free rfl) (V.indexSl (T := RClu) (l := H) (a := a5) (j := i) rfl el31.slice rfl rfl (by repeat (first | exact List.Mem.head _ | assumption | apply List.Mem.tail)) rfl (by omega)) rfl ?_
    refine RL.val (Wanted.free rfl) (V.fieldAt rfl rfl fo37_0 (by repeat (first | exact List.Mem.head _ | assumption | apply List.Mem.tail))) rfl ?_
    refine RL.val (Wanted.free rfl) (V.loadAtF rfl on34 rfl (by repeat (first | exact List.Mem.head _ | assumption | apply List.Mem.tail)) rfl) rfl ?_
    refine RL.val (Wanted.free rfl) (V.len rfl rfl el34.under rfl) rfl ?_
    refine RL.cmp (Wanted.free rfl) (V.bin rfl rfl rfl B.lss) rfl (fun h48 => ?_) (fun h48 => ?_)
    · skip
      refine RL.nil ?_
      refine SG.cond_true rfl ?_
      refine SG.skip ?_
      refine SG.seq ?_
      refine SG.block ?_
      refine SG.seq ?_
      obtain ⟨hpj, hpk, hpo⟩ := hHc.get (i := j) (by omega)
      obtain ⟨n1, n5, i0, i1, t0, t1, ll, lv, lm, vn, mn, c0, c1, mm, dd⟩ := hpo
      refine SG.region ?_
      refine RL.val (Wanted.free rfl) (V.move rfl rfl) rfl ?_
      refine RL.val (Wanted.free rfl) (V.move rfl rfl) rfl ?_
      refine RL.val (Wanted.free rfl) (V.indexSl (T := RClu) (l := H) (a := a5) (j := i) rfl el31.slice rfl rfl (by repeat (first | exact List.Mem.head _ | assumption | apply List.Mem.tail)) rfl (by omega)) rfl ?_
      refine RL.val (Wanted.free rfl) (V.fieldAt rfl rfl fo37_0 (by repeat (first | exact List.Mem.head _ | assumption | apply List.Mem.tail))) rfl ?_
      refine RL.val (Wanted.free rfl) (V.loadAtF rfl on34 rfl (by repeat (first | exact List.Mem.head _ | assumption | apply List.Mem.tail)) rfl) rfl ?_
      refine RL.val (Wanted.free rfl) (V.move rfl rfl) rfl ?_
      refine RL.val (Wanted.free rfl) (V.indexSl (T := RPeer) (l := c.nodes) (a := na) (j := j) rfl el34.slice rfl rfl (by repeat (first | exact List.Mem.head _ | assumption | apply List.Mem.tail)) rfl (by rw [hHc.len]; omega)) rfl ?_
      refine RL.eff (Wanted.free rfl) (E.loadElem (T := RPeer) (l := c.nodes) (a := na) (j := j) rfl ag26 rfl (by repeat (first | exact List.Mem.head _ | assumption | apply List.Mem.tail)) hpj) rfl ?_
      rintro _ _ ⟨u78, rfl, rfl⟩
      refine RL.eff (Wanted.free rfl) (E.alloc rfl ze26) rfl ?_
      rintro _ _ ⟨b17, rfl, rfl⟩
      refine RL.openPeer (us := u78) (p := (c.p j)) (Pick.rd (T := RPeer) (by repeat (first | exact List.Mem.head _ | assumption | apply List.Mem.tail))) fun ca cn cd va vn vc xa xn xc hus => ?_
      subst hus
      refine RL.eff (Wanted.free rfl) (E.storeWhole rfl rfl rfl (by rfl) sz26 (by repeat (first | exact Pick.here | assumption | apply Pick.there)) pv_one (by rfl)) rfl ?_
      rintro _ _ rfl
      refine RL.nil ?_
      refine SG.seq ?_
      refine SG.region ?_
      refine RL.val (Wanted.free rfl) (V.loadAgg (us := pv (c.p j) (.slice ca cn cd) (.slice va vn vc) (.slice xa xn xc)) rfl ag26 rfl (by repeat (first | exact Pick.here | assumption | apply Pick.there)) rfl rfl) rfl ?_
      refine RL.eff (Wanted.free rfl) (E.call rfl go16 rfl (pCamp_ok (us := pv (c.p j) (.slice ca cn cd) (.slice va vn vc) (.slice xa xn xc)) (p := c.p j) (by repeat (first | exact List.Mem.head _ | assumption | apply List.Mem.tail)) (by omega) (by omega) (by omega) (by omega) (by omega) (by omega) (by omega) (by omega) (by omega))) rfl ?_
      rintro _ _ ⟨u81, a81, c81, rfl, rfl⟩
      refine RL.openPeer (us := u81) (p := (campaign (c.p j)).1) (Pick.rd (T := RPeer) (by repeat (first | exact List.Mem.head _ | assumption | apply List.Mem.tail))) fun ea en ed fa fn fd ga gn gd hus => ?_
      subst hus
      refine RL.val (Wanted.free rfl) (V.move rfl rfl) rfl ?_
      refine RL.val (Wanted.free rfl) (V.extract rfl rfl rfl) rfl ?_
      refine RL.val (Wanted.free rfl) (V.extract rfl rfl rfl) rfl ?_
      refine RL.eff (Wanted.free rfl) (E.alloc rfl ze26) rfl ?_
      rintro _ _ ⟨b18, rfl, rfl⟩
      refine RL.eff (Wanted.free rfl) (E.storeWhole rfl rfl rfl (by rfl) sz26 (by repeat (first | exact Pick.here | assumption | apply Pick.there)) pv_one (by rfl)) rfl ?_
      rintro _ _ rfl
      refine RL.val (Wanted.free rfl) (V.assign rfl rfl) rfl ?_
      refine RL.nil ?_
      refine SG.seq ?_
      refine SG.region ?_
      refine RL.val (Wanted.free rfl) (V.loadAgg (us := pv (c.p j) (.slice ca cn cd) (.slice va vn vc) (.slice xa xn xc)) rfl ag26 rfl (by repeat (first | exact Pick.here | assumption | apply Pick.there)) rfl rfl) rfl ?_
      refine RL.eff (Wanted.free rfl) (E.call rfl go17 rfl (rCamp_ok (us := pv (c.p j) (.slice ca cn cd) (.slice va vn vc) (.slice xa xn xc)) (p := c.p j) (by repeat (first | exact List.Mem.head _ | assumption | apply List.Mem.tail)) (by omega) (by omega) (by omega) (by omega) (by omega) (by omega) (by omega) (by omega) (by omega))) rfl ?_
      rintro _ _ ⟨u86, a86, c86, rfl, rfl⟩
      refine RL.openPeer (us := u86) (p := (campaign (c.p j)).1) (Pick.rd (T := RPeer) (by repeat (first | exact List.Mem.head _ | assumption | apply List.Mem.tail))) fun ha hn1 hd ia im id1 ja jn jd hus => ?_
      subst hus
      refine RL.val (Wanted.free rfl) (V.move rfl rfl) rfl ?_
      refine RL.val (Wanted.free rfl) (V.extract rfl rfl rfl) rfl ?_
      refine RL.val (Wanted.free rfl) (V.extract rfl rfl rfl) rfl ?_
      refine RL.eff (Wanted.free rfl) (E.alloc rfl ze26) rfl ?_
      rintro _ _ ⟨b20, rfl, rfl⟩
      refine RL.eff (Wanted.free rfl) (E.storeWhole rfl rfl rfl (by rfl) sz26 (by repeat (first | exact Pick.here | assumption | apply Pick.there)) pv_one (by rfl)) rfl ?_
      rintro _ _ rfl
      refine RL.val (Wanted.free rfl) (V.assign rfl rfl) rfl ?_
      refine RL.nil ?_
      refine SG.seq ?_
      refine SG.region ?_
      refine RL.val (Wanted.free rfl) (V.loadAgg (us := pv (c.p j) (.slice ca cn cd) (.slice va vn vc) (.slice xa xn xc)) rfl ag26 rfl (by repeat (first | exact Pick.here | assumption | apply Pick.there)) rfl rfl) rfl ?_
      refine RL.eff (Wanted.free rfl) (E.call rfl go18 rfl (pProp_ok (us := pv (c.p j) (.slice ca cn cd) (.slice va vn vc) (.slice xa xn xc)) (p := c.p j) (data := [112]) (by repeat (first | exact List.Mem.head _ | assumption | apply List.Mem.tail)) (by omega) (by omega) (by omega) (by omega) (by omega) (by omega) (by omega) (by omega) (by omega) mn c0)) rfl ?_
      rintro _ _ ⟨u91, rfl, rfl⟩
      refine RL.openPeer (us := u91) (p := (propV (c.p j) [112]).1) (Pick.rd (T := RPeer) (by repeat (first | exact List.Mem.head _ | assumption | apply List.Mem.tail))) fun ka kn kd la ln ld ma mn1 md hus => ?_
      subst hus
      refine RL.val (Wanted.free rfl) (V.move rfl rfl) rfl ?_
      refine RL.val (Wanted.free rfl) (V.extract rfl rfl rfl) rfl ?_
      refine RL.val (Wanted.free rfl) (V.extract rfl rfl rfl) rfl ?_
      refine RL.eff (Wanted.free rfl) (E.alloc rfl ze26) rfl ?_
      rintro _ _ ⟨b22, rfl, rfl⟩
      refine RL.eff (Wanted.free rfl) (E.storeWhole rfl rfl rfl (by rfl) sz26 (by repeat (first | exact Pick.here | assumption | apply Pick.there)) pv_one (by rfl)) rfl ?_
      rintro _ _ rfl
      refine RL.val (Wanted.free rfl) (V.assign rfl rfl) rfl ?_
      refine RL.nil ?_
      refine SG.seq ?_
      refine SG.region ?_
      refine RL.val (Wanted.free rfl) (V.loadAgg (us := pv (c.p j) (.slice ca cn cd) (.slice va vn vc) (.slice xa xn xc)) rfl ag26 rfl (by repeat (first | exact Pick.here | assumption | apply Pick.there)) rfl rfl) rfl ?_
      refine RL.eff (Wanted.free rfl) (E.call rfl go19 rfl (rProp_ok (us := pv (c.p j) (.slice ca cn cd) (.slice va vn vc) (.slice xa xn xc)) (p := c.p j) (data := [112]) (by repeat (first | exact List.Mem.head _ | assumption | apply List.Mem.tail)) (by omega) (by omega) (by omega) (by omega) (by omega) (by omega) (by omega) (by omega) (by omega) mn c0 c1)) rfl ?_
      rintro _ _ ⟨u96, rfl, rfl⟩
      refine RL.openPeer (us := u96) (p := (propV (c.p j) [112]).1) (Pick.rd (T := RPeer) (by repeat (first | exact List.Mem.head _ | assumption | apply List.Mem.tail))) fun oa on od pa pn pd qa qn qd hus => ?_
      subst hus
      refine RL.val (Wanted.free rfl) (V.move rfl rfl) rfl ?_
      refine RL.val (Wanted.free rfl) (V.extract rfl rfl rfl) rfl ?_
      refine RL.val (Wanted.free rfl) (V.extract rfl rfl rfl) rfl ?_
      refine RL.eff (Wanted.free rfl) (E.alloc rfl ze26) rfl ?_
      rintro _ _ ⟨b24, rfl, rfl⟩
      refine RL.eff (Wanted.free rfl) (E.storeWhole rfl rfl rfl (by rfl) sz26 (by repeat (first | exact Pick.here | assumption | apply Pick.there)) pv_one (by rfl)) rfl ?_
      rintro _ _ rfl
      refine RL.val (Wanted.free rfl) (V.assign rfl rfl) rfl ?_
      refine RL.nil ?_
      refine SG.seq ?_
      refine SG.seq ?_
      refine SG.drawL 29 29 wide rfl rfl ?_
      refine RH.val 0 rfl (by kernel_rfl) (by kernel_rfl) (by kernel_rfl) (by kernel_rfl) (Wanted.free rfl) (V.loadAgg (us := pv (campaign (c.p j)).1 (.slice ea en ed) (.slice fa fn fd) (.slice ga gn gd)) rfl ag26 rfl (by repeat (first | exact Pick.here | assumption | apply Pick.there)) rfl rfl) rfl ?_
      refine RH.val 1 rfl (by kernel_rfl) (by kernel_rfl) (by kernel_rfl) (by kernel_rfl) (Wanted.free rfl) (V.loadAgg (us := pv (campaign (c.p j)).1 (.slice ha hn1 hd) (.slice ia im id1) (.slice ja jn jd)) rfl ag26 rfl (by repeat (first | exact Pick.here | assumption | apply Pick.there)) rfl rfl) rfl ?_
      refine RH.one (i := 2) (by kernel_rfl) ?_
      refine RHone.eff rfl (Wanted.free rfl) (E.call rfl go14 rfl (same_ok (us := pv (campaign (c.p j)).1 (.slice ea en ed) (.slice fa fn fd) (.slice ga gn gd)) (us' := pv (campaign (c.p j)).1 (.slice ha hn1 hd) (.slice ia im id1) (.slice ja jn jd)) (p := (campaign (c.p j)).1) (p' := (campaign (c.p j)).1) (by repeat (first | exact List.Mem.head _ | assumption | apply List.Mem.tail)) (by repeat (first | exact List.Mem.head _ | assumption | apply List.Mem.tail)) rfl)) rfl ?_
      rintro _ _ ⟨rfl, rfl⟩
      refine ⟨.inr (by repeat (first | exact Ent.refl _ | (apply Ent.cons; (· repeat (first | exact Pick.here | (refine Pick.sl ?_; (· repeat (first | exact List.Mem.head _ | assumption | apply List.Mem.tail))) | apply Pick.there))) | (refine Ent.trans (Ent.drop _ _) ?_))), ?_⟩
      refine RH.pure 3 rfl (by kernel_rfl) (by kernel_rfl) (by kernel_rfl) (by kernel_rfl) (Wanted.free rfl) (V.not rfl rfl) rfl ?_
      refine RH.val 4 rfl (by kernel_rfl) (by kernel_rfl) (by kernel_rfl) (by kernel_rfl) (Wanted.free rfl) (V.move rfl rfl) rfl ?_
      refine RH.val 5 rfl (by kernel_rfl) (by kernel_rfl) (by kernel_rfl) (by kernel_rfl) (Wanted.yes rfl rfl rfl rfl) (V.move rfl rfl) rfl ?_
      refine RH.val 6 rfl (by kernel_rfl) (by kernel_rfl) (by kernel_rfl) (by kernel_rfl) (Wanted.yes rfl rfl rfl rfl) (V.move rfl rfl) rfl ?_
      refine RH.one (i := 7) (by kernel_rfl) ?_
      refine RHone.eff rfl (Wanted.yes rfl rfl rfl rfl) (E.call rfl go20 rfl (sameMsgs_ok (l := (campaign (c.p j)).2) (l' := (campaign (c.p j)).2) (a := a81) (b := a86) (by repeat (first | exact List.Mem.head _ | assumption | apply List.Mem.tail)) (by repeat (first | exact List.Mem.head _ | assumption | apply List.Mem.tail)) rfl)) rfl ?_
      rintro _ _ ⟨rfl, rfl⟩
      refine ⟨.inr (by repeat (first | exact Ent.refl _ | (apply Ent.cons; (· repeat (first | exact Pick.here | (refine Pick.sl ?_; (· repeat (first | exact List.Mem.head _ | assumption | apply List.Mem.tail))) | apply Pick.there))) | (refine Ent.trans (Ent.drop _ _) ?_))), ?_⟩
      refine RH.pure 8 rfl (by kernel_rfl) (by kernel_rfl) (by kernel_rfl) (by kernel_rfl) (Wanted.yes rfl rfl rfl rfl) (V.not rfl rfl) rfl ?_
      refine RH.pure 9 rfl (by kernel_rfl) (by kernel_rfl) (by kernel_rfl) (by kernel_rfl) (Wanted.free rfl) (V.pick_false rfl rfl rfl) rfl ?_
      refine RH.val 10 rfl (by kernel_rfl) (by kernel_rfl) (by kernel_rfl) (by kernel_rfl) (Wanted.free rfl) (V.move rfl rfl) rfl ?_
      refine RH.val 11 rfl (by kernel_rfl) (by kernel_rfl) (by kernel_rfl) (by kernel_rfl) (Wanted.yes rfl rfl rfl rfl) (V.loadAgg (us := pv (propV (c.p j) [112]).1 (.slice ka kn kd) (.slice la ln ld) (.slice ma mn1 md)) rfl ag26 rfl (by repeat (first | exact Pick.here | assumption | apply Pick.there)) rfl rfl) rfl ?_
      refine RH.val 12 rfl (by kernel_rfl) (by kernel_rfl) (by kernel_rfl) (by kernel_rfl) (Wanted.yes rfl rfl rfl rfl) (V.loadAgg (us := pv (propV (c.p j) [112]).1 (.slice oa on od) (.slice pa pn pd) (.slice qa qn qd)) rfl ag26 rfl (by repeat (first | exact Pick.here | assumption | apply Pick.there)) rfl rfl) rfl ?_
      refine RH.one (i := 13) (by kernel_rfl) ?_
      refine RHone.eff rfl (Wanted.yes rfl rfl rfl rfl) (E.call rfl go14 rfl (same_ok (us := pv (propV (c.p j) [112]).1 (.slice ka kn kd) (.slice la ln ld) (.slice ma mn1 md)) (us' := pv (propV (c.p j) [112]).1 (.slice oa on od) (.slice pa pn pd) (.slice qa qn qd)) (p := (propV (c.p j) [112]).1) (p' := (propV (c.p j) [112]).1) (by repeat (first | exact List.Mem.head _ | assumption | apply List.Mem.tail)) (by repeat (first | exact List.Mem.head _ | assumption | apply List.Mem.tail)) rfl)) rfl ?_
      rintro _ _ ⟨rfl, rfl⟩
      refine ⟨.inr (by repeat (first | exact Ent.refl _ | (apply Ent.cons; (· repeat (first | exact Pick.here | (refine Pick.sl ?_; (· repeat (first | exact List.Mem.head _ | assumption | apply List.Mem.tail))) | apply Pick.there))) | (refine Ent.trans (Ent.drop _ _) ?_))), ?_⟩
      refine RH.pure 14 rfl (by kernel_rfl) (by kernel_rfl) (by kernel_rfl) (by kernel_rfl) (Wanted.yes rfl rfl rfl rfl) (V.not rfl rfl) rfl ?_
      refine RH.pure 15 rfl (by kernel_rfl) (by kernel_rfl) (by kernel_rfl) (by kernel_rfl) (Wanted.free rfl) (V.pick_false rfl rfl rfl) rfl ?_
      refine RH.val 16 rfl (by kernel_rfl) (by kernel_rfl) (by kernel_rfl) (by kernel_rfl) (Wanted.free rfl) (V.move rfl rfl) rfl ?_
      refine RH.val 17 rfl (by kernel_rfl) (by kernel_rfl) (by kernel_rfl) (by kernel_rfl) (Wanted.yes rfl rfl rfl rfl) (V.move rfl rfl) rfl ?_
      refine RH.val 18 rfl (by kernel_rfl) (by kernel_rfl) (by kernel_rfl) (by kernel_rfl) (Wanted.yes rfl rfl rfl rfl) (V.move rfl rfl) rfl ?_
      refine RH.cmpF 19 rfl (by kernel_rfl) (by kernel_rfl) (by kernel_rfl) (by kernel_rfl) (Wanted.yes rfl rfl rfl rfl) (V.bin rfl rfl rfl B.neq) rfl (fun h => h rfl) ?_
      refine RH.pure 20 rfl (by kernel_rfl) (by kernel_rfl) (by kernel_rfl) (by kernel_rfl) (Wanted.free rfl) (V.pick_false rfl rfl rfl) rfl ?_
      refine RH.val 21 rfl (by kernel_rfl) (by kernel_rfl) (by kernel_rfl) (by kernel_rfl) (Wanted.free rfl) (V.move rfl rfl) rfl ?_
      refine RH.val 22 rfl (by kernel_rfl) (by kernel_rfl) (by kernel_rfl) (by kernel_rfl) (Wanted.yes rfl rfl rfl rfl) (V.loadAgg (us := pv (c.p j) (.slice ca cn cd) (.slice va vn vc) (.slice xa xn xc)) rfl ag26 rfl (by repeat (first | exact Pick.here | assumption | apply Pick.there)) rfl rfl) rfl ?_
      refine RH.val 24 rfl (by kernel_rfl) (by kernel_rfl) (by kernel_rfl) (by kernel_rfl) (Wanted.yes rfl rfl rfl rfl) (V.loadAgg (us := pv (c.p j) (.slice ca cn cd) (.slice va vn vc) (.slice xa xn xc)) rfl ag26 rfl (by repeat (first | exact Pick.here | assumption | apply Pick.there)) rfl rfl) rfl ?_
      refine RH.one (i := 23) (by kernel_rfl) ?_
      refine RHone.eff rfl (Wanted.yes rfl rfl rfl rfl) (E.call rfl go21 rfl (pBeat_ok (us := pv (c.p j) (.slice ca cn cd) (.slice va vn vc) (.slice xa xn xc)) (p := c.p j) (by repeat (first | exact List.Mem.head _ | assumption | apply List.Mem.tail)) (by omega) (by omega) (by omega) (by omega) (by omega) (by omega) (by omega) (by omega) (by omega) mn mm)) rfl ?_
      rintro _ _ ⟨a122, c122, rfl, rfl⟩
      refine ⟨.inr (by repeat (first | exact Ent.refl _ | (apply Ent.cons; (· repeat (first | exact Pick.here | (refine Pick.sl ?_; (· repeat (first | exact List.Mem.head _ | assumption | apply List.Mem.tail))) | apply Pick.there))) | (refine Ent.trans (Ent.drop _ _) ?_))), ?_⟩
      refine RH.one (i := 25) (by kernel_rfl) ?_
      refine RHone.eff rfl (Wanted.yes rfl rfl rfl rfl) (E.call rfl go22 rfl (rBeat_ok (us := pv (c.p j) (.slice ca cn cd) (.slice va vn vc) (.slice xa xn xc)) (p := c.p j) (by repeat (first | exact List.Mem.head _ | assumption | apply List.Mem.tail)) (by omega) (by omega) (by omega) (by omega) (by omega) (by omega) (by omega) (by omega) (by omega) mn mm)) rfl ?_
      rintro _ _ ⟨a124, c124, rfl, rfl⟩
      refine ⟨.inr (by repeat (first | exact Ent.refl _ | (apply Ent.cons; (· repeat (first | exact Pick.here | (refine Pick.sl ?_; (· repeat (first | exact List.Mem.head _ | assumption | apply List.Mem.tail))) | apply Pick.there))) | (refine Ent.trans (Ent.drop _ _) ?_))), ?_⟩
      refine RH.one (i := 26) (by kernel_rfl) ?_
      refine RHone.eff rfl (Wanted.yes rfl rfl rfl rfl) (E.call rfl go20 rfl (sameMsgs_ok (l := beat (c.p j)) (l' := beat (c.p j)) (a := a122) (b := a124) (by repeat (first | exact List.Mem.head _ | assumption | apply List.Mem.tail)) (by repeat (first | exact List.Mem.head _ | assumption | apply List.Mem.tail)) rfl)) rfl ?_
      rintro _ _ ⟨rfl, rfl⟩
      refine ⟨.inr (by repeat (first | exact Ent.refl _ | (apply Ent.cons; (· repeat (first | exact Pick.here | (refine Pick.sl ?_; (· repeat (first | exact List.Mem.head _ | assumption | apply List.Mem.tail))) | apply Pick.there))) | (refine Ent.trans (Ent.drop _ _) ?_))), ?_⟩
      refine RH.pure 27 rfl (by kernel_rfl) (by kernel_rfl) (by kernel_rfl) (by kernel_rfl) (Wanted.yes rfl rfl rfl rfl) (V.not rfl rfl) rfl ?_
      refine RH.pure 28 rfl (by kernel_rfl) (by kernel_rfl) (by kernel_rfl) (by kernel_rfl) (Wanted.free rfl) (V.pick_false rfl rfl rfl) rfl ?_
      refine RH.done (by kernel_rfl) ?_
      refine SG.cond_false rfl ?_
      refine SG.skip ?_
      refine SG.seq ?_
      refine SG.drawL 14 14 wide rfl rfl ?_
      refine RH.val 0 rfl (by kernel_rfl) (by kernel_rfl) (by kernel_rfl) (by kernel_rfl) (Wanted.free rfl) (V.loadAgg (us := pv (c.p j) (.slice ca cn cd) (.slice va vn vc) (.slice xa xn xc)) rfl ag26 rfl (by repeat (first | exact Pick.here | assumption | apply Pick.there)) rfl rfl) rfl ?_
      refine RH.val 2 rfl (by kernel_rfl) (by kernel_rfl) (by kernel_rfl) (by kernel_rfl) (Wanted.free rfl) (V.loadAgg (us := pv (c.p j) (.slice ca cn cd) (.slice va vn vc) (.slice xa xn xc)) rfl ag26 rfl (by repeat (first | exact Pick.here | assumption | apply Pick.there)) rfl rfl) rfl ?_
      refine RH.one (i := 1) (by kernel_rfl) ?_
      refine RHone.eff rfl (Wanted.free rfl) (E.call rfl go23 rfl (pRestart_ok (us := pv (c.p j) (.slice ca cn cd) (.slice va vn vc) (.slice xa xn xc)) (p := c.p j) (by repeat (first | exact List.Mem.head _ | assumption | apply List.Mem.tail)) (by omega) (by omega) (by omega))) rfl ?_
      rintro _ _ ⟨u129, rfl, rfl⟩
      refine ⟨.inr (by repeat (first | exact Ent.refl _ | (apply Ent.cons; (· repeat (first | exact Pick.here | (refine Pick.sl ?_; (· repeat (first | exact List.Mem.head _ | assumption | apply List.Mem.tail))) | apply Pick.there))) | (refine Ent.trans (Ent.drop _ _) ?_))), ?_⟩
      refine RH.one (i := 3) (by kernel_rfl) ?_
      refine RHone.eff rfl (Wanted.free rfl) (E.call rfl go24 rfl (rRestart_ok (us := pv (c.p j) (.slice ca cn cd) (.slice va vn vc) (.slice xa xn xc)) (p := c.p j) (by repeat (first | exact List.Mem.head _ | assumption | apply List.Mem.tail)))) rfl ?_
      rintro _ _ ⟨u131, rfl, rfl⟩
      refine ⟨.inr (by repeat (first | exact Ent.refl _ | (apply Ent.cons; (· repeat (first | exact Pick.here | (refine Pick.sl ?_; (· repeat (first | exact List.Mem.head _ | assumption | apply List.Mem.tail))) | apply Pick.there))) | (refine Ent.trans (Ent.drop _ _) ?_))), ?_⟩
      refine RH.one (i := 4) (by kernel_rfl) ?_
      refine RHone.eff rfl (Wanted.free rfl) (E.call rfl go14 rfl (same_ok (us := u129) (us' := u131) (p := restart (c.p j)) (p' := restart (c.p j)) (by repeat (first | exact List.Mem.head _ | assumption | apply List.Mem.tail)) (by repeat (first | exact List.Mem.head _ | assumption | apply List.Mem.tail)) rfl)) rfl ?_
      rintro _ _ ⟨rfl, rfl⟩
      refine ⟨.inr (by repeat (first | exact Ent.refl _ | (apply Ent.cons; (· repeat (first | exact Pick.here | (refine Pick.sl ?_; (· repeat (first | exact List.Mem.head _ | assumption | apply List.Mem.tail))) | apply Pick.there))) | (refine Ent.trans (Ent.drop _ _) ?_))), ?_⟩
      refine RH.pure 5 rfl (by kernel_rfl) (by kernel_rfl) (by kernel_rfl) (by kernel_rfl) (Wanted.free rfl) (V.not rfl rfl) rfl ?_
      refine RH.val 6 rfl (by kernel_rfl) (by kernel_rfl) (by kernel_rfl) (by kernel_rfl) (Wanted.free rfl) (V.move rfl rfl) rfl ?_
      refine RH.val 7 rfl (by kernel_rfl) (by kernel_rfl) (by kernel_rfl) (by kernel_rfl) (Wanted.yes rfl rfl rfl rfl) (V.loadAgg (us := pv (c.p j) (.slice ca cn cd) (.slice va vn vc) (.slice xa xn xc)) rfl ag26 rfl (by repeat (first | exact Pick.here | assumption | apply Pick.there)) rfl rfl) rfl ?_
      refine RH.val 9 rfl (by kernel_rfl) (by kernel_rfl) (by kernel_rfl) (by kernel_rfl) (Wanted.yes rfl rfl rfl rfl) (V.loadAgg (us := pv (c.p j) (.slice ca cn cd) (.slice va vn vc) (.slice xa xn xc)) rfl ag26 rfl (by repeat (first | exact Pick.here | assumption | apply Pick.there)) rfl rfl) rfl ?_
      refine RH.one (i := 8) (by kernel_rfl) ?_
      refine RHone.eff rfl (Wanted.yes rfl rfl rfl rfl) (E.call rfl go26 rfl (pCom_ok (us := pv (c.p j) (.slice ca cn cd) (.slice va vn vc) (.slice xa xn xc)) (p := c.p j) (by repeat (first | exact List.Mem.head _ | assumption | apply List.Mem.tail)) (by omega) (by omega) (by omega) c0 c1 dd)) rfl ?_
      rintro _ _ ⟨a136, c136, rfl, rfl⟩
      refine ⟨.inr (by repeat (first | exact Ent.refl _ | (apply Ent.cons; (· repeat (first | exact Pick.here | (refine Pick.sl ?_; (· repeat (first | exact List.Mem.head _ | assumption | apply List.Mem.tail))) | apply Pick.there))) | (refine Ent.trans (Ent.drop _ _) ?_))), ?_⟩
      refine RH.one (i := 10) (by kernel_rfl) ?_
      refine RHone.eff rfl (Wanted.yes rfl rfl rfl rfl) (E.call rfl go27 rfl (rCom_ok (us := pv (c.p j) (.slice ca cn cd) (.slice va vn vc) (.slice xa xn xc)) (p := c.p j) (by repeat (first | exact List.Mem.head _ | assumption | apply List.Mem.tail)) (by omega) c0 c1 dd)) rfl ?_
      rintro _ _ ⟨a138, c138, rfl, rfl⟩
      refine ⟨.inr (by repeat (first | exact Ent.refl _ | (apply Ent.cons; (· repeat (first | exact Pick.here | (refine Pick.sl ?_; (· repeat (first | exact List.Mem.head _ | assumption | apply List.Mem.tail))) | apply Pick.there))) | (refine Ent.trans (Ent.drop _ _) ?_))), ?_⟩
      refine RH.one (i := 11) (by kernel_rfl) ?_
      refine RHone.eff rfl (Wanted.yes rfl rfl rfl rfl) (E.call rfl go25 rfl (sameStr_ok (l := committed (c.p j)) (l' := committed (c.p j)) (a := a136) (b := a138) (by repeat (first | exact List.Mem.head _ | assumption | apply List.Mem.tail)) (by repeat (first | exact List.Mem.head _ | assumption | apply List.Mem.tail)) rfl)) rfl ?_
      rintro _ _ ⟨rfl, rfl⟩
      refine ⟨.inr (by repeat (first | exact Ent.refl _ | (apply Ent.cons; (· repeat (first | exact Pick.here | (refine Pick.sl ?_; (· repeat (first | exact List.Mem.head _ | assumption | apply List.Mem.tail))) | apply Pick.there))) | (refine Ent.trans (Ent.drop _ _) ?_))), ?_⟩
      refine RH.pure 12 rfl (by kernel_rfl) (by kernel_rfl) (by kernel_rfl) (by kernel_rfl) (Wanted.yes rfl rfl rfl rfl) (V.not rfl rfl) rfl ?_
      refine RH.pure 13 rfl (by kernel_rfl) (by kernel_rfl) (by kernel_rfl) (by kernel_rfl) (Wanted.free rfl) (V.pick_false rfl rfl rfl) rfl ?_
      refine RH.done (by kernel_rfl) ?_
      refine SG.cond_false rfl ?_
      refine SG.skip ?_
      refine SG.inBlock ?_
      refine SG.region ?_
      refine RL.val (Wanted.free rfl) (V.move rfl rfl) rfl ?_
      refine RL.val (Wanted.free rfl) (V.bin rfl rfl rfl (B.addI (by omega) (by omega))) rfl ?_
      refine RL.val (Wanted.free rfl) (V.assign rfl rfl) rfl ?_
      refine RL.nil ?_
      refine SG.weaken (ih1 _ _ _ ?_ ⟨j + 1, by omega, rfl, rfl, rfl⟩) ?_ ?_
      · omega
      · repeat (first | exact EnvLe.nil _ | refine EnvLe.cons rfl ?_)
      · repeat (first | exact Ent.refl _ | (apply Ent.cons; (· repeat (first | exact Pick.here | (refine Pick.sl ?_; (· repeat (first | exact List.Mem.head _ | assumption | apply List.Mem.tail))) | apply Pick.there))) | (refine Ent.trans (Ent.drop _ _) ?_))
    · skip
      refine RL.nil ?_
      refine SG.cond_false rfl ?_
      refine SG.exit rfl ?_
      refine SG.inBlock ?_
      refine SG.region ?_
      refine RL.val (Wanted.free rfl) (V.move rfl rfl) rfl ?_
      refine RL.val (Wanted.free rfl) (V.bin rfl rfl rfl (B.addI (by omega) (by omega))) rfl ?_
      refine RL.val (Wanted.free rfl) (V.assign rfl rfl) rfl ?_
      refine RL.nil ?_
      refine SG.weaken (ih0 _ _ _ ?_ ⟨i + 1, by omega, rfl, rfl, rfl⟩) ?_ ?_
      · omega
      · repeat (first | exact EnvLe.nil _ | refine EnvLe.cons rfl ?_)
      · repeat (first | exact Ent.refl _ | (apply Ent.cons; (· repeat (first | exact Pick.here | (refine Pick.sl ?_; (· repeat (first | exact List.Mem.head _ | assumption | apply List.Mem.tail))) | apply Pick.there))) | (refine Ent.trans (Ent.drop _ _) ?_))
  · skip
    refine RL.nil ?_
    refine SG.cond_false rfl ?_
    refine SG.exit rfl ?_
    refine SG.seq ?_
    refine SG.region ?_
    refine RL.eff (Wanted.free rfl) (E.call rfl go28 rfl (lives_ok)) rfl ?_
    rintro _ _ ⟨rfl, rfl⟩
    refine RL.val (Wanted.free rfl) (V.assign rfl rfl) rfl ?_
    refine RL.nil ?_
    refine SG.retE (Ret.r1 Try.func3 rfl (.tmp rfl)) ?_ ⟨rfl, rfl⟩
    repeat (first | exact Ent.refl _ | (apply Ent.cons; (· repeat (first | exact Pick.here | (refine Pick.sl ?_; (· repeat (first | exact List.Mem.head _ | assumption | apply List.Mem.tail))) | apply Pick.there))) | (refine Ent.trans (Ent.drop _ _) ?_))

end Go.Proofs.Ytilcnglcflohoaa
