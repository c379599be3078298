/- The walk of ReplicaKeeps. -/
import Derived.Test.YtilcnglcflohoaaLawp
namespace Go.Proofs.Ytilcnglcflohoaa
open Go.Wk Go.Rp

theorem begins_of {l : List Slot} {x : List (List UInt8)} {r : List Slot} (h : r <+: l) (hx : x = r.map (·.data)) : x <+: l.map (·.data) := by
  obtain ⟨s, rfl⟩ := h
  rw [hx, List.map_append]; exact List.prefix_append _ _
theorem begins_get {l : List Slot} {x : List (List UInt8)} (h : x <+: l.map (·.data)) {i : Nat} (hi : i < x.length) : ∃ s, l[i]? = some s ∧ x[i]? = some s.data := by
  obtain ⟨r, hr⟩ := h
  have h1 : (l.map (·.data))[i]? = x[i]? := by rw [← hr, List.getElem?_append_left hi]
  rw [List.getElem?_map, List.getElem?_eq_getElem hi] at h1
  cases hl : l[i]? with
  | none => rw [hl] at h1; cases h1
  | some s => rw [hl] at h1; exact ⟨s, rfl, by rw [List.getElem?_eq_getElem hi]; exact h1.symm⟩
set_option maxRecDepth 100000 in
theorem begins_ok {κ : World} {L : List Assn} {a b : Option Addr} {n n' c c' : Nat} {l : List Slot} {x : List (List UInt8)} (hm : Sl RSlot a n c l ∈ L) (hm' : Sl RS b n' c' x ∈ L) (he : x <+: l.map (·.data)) :
    Ctr Try.prog 33 #[.slice a n c, .slice b n' c'] κ L (fun v M => v = vB true ∧ M = L) := by
  refine Ctr.enter (vs := [.slice a n c, .slice b n' c']) (m := 27) Try.func33 rfl rfl rfl ?_
  refine SG.sl hm fun hn _ _ => ?_
  refine SG.sl hm' fun hn' _ _ => ?_
  have hlen := he.length_le
  rw [List.length_map] at hlen
  refine SG.seq ?_
  refine SG.region ?_
  refine RL.val (Wanted.free rfl) (V.assign rfl rfl) rfl ?_
  refine RL.nil ?_
  refine SG.seq ?_
  refine SG.seq ?_
  refine SG.region ?_
  refine RL.val (Wanted.free rfl) (V.move rfl rfl) rfl ?_
  refine RL.val (Wanted.free rfl) (V.len rfl rfl el45.under rfl) rfl ?_
  refine RL.val (Wanted.free rfl) (V.move rfl rfl) rfl ?_
  refine RL.val (Wanted.free rfl) (V.len rfl rfl el23.under rfl) rfl ?_
  refine RL.cmpF (Wanted.free rfl) (V.bin rfl rfl rfl B.gtr) rfl (by omega) ?_
  refine RL.nil ?_
  refine SG.cond_false rfl ?_
  refine SG.skip ?_
  refine SG.seq ?_
  refine SG.seq ?_
  refine SG.region ?_
  refine RL.val (Wanted.free rfl) (V.assign rfl rfl) rfl ?_
  refine RL.nil ?_
  refine SG.block ?_
  refine SG.weaken (SG.loop2 (fun m al M => ∃ i : Nat, i ≤ n' ∧ m = n' - i ∧ al = [(0, .slice a n c), (1, .slice b n' c'), (4, vB false), (5, vI i)] ∧ M = L) (m0 := _) ⟨0, by omega, rfl, rfl, rfl⟩ ?_) ?_ ?_
  rotate_left
  · repeat (first | exact EnvLe.nil _ | refine EnvLe.cons rfl ?_)
  · repeat (first | exact Ent.refl _ | (apply Ent.cons; (· repeat (first | exact Pick.here | (refine Pick.sl ?_; (· repeat (first | exact List.Mem.head _ | assumption | apply List.Mem.tail))) | apply Pick.there))) | (refine Ent.trans (Ent.drop _ _) ?_))
  rintro _ _ _ ⟨i, hi, rfl, rfl, hM⟩ ih0
  subst hM
  refine SG.seq ?_
  refine SG.seq ?_
  refine SG.region ?_
  refine RL.val (Wanted.free rfl) (V.move rfl rfl) rfl ?_
  refine RL.val (Wanted.free rfl) (V.move rfl rfl) rfl ?_
  refine RL.val (Wanted.free rfl) (V.len rfl rfl el45.under rfl) rfl ?_
  refine RL.cmp (Wanted.free rfl) (V.bin rfl rfl rfl B.lss) rfl (fun h10 => ?_) (fun h10 => ?_)
  · skip
    refine RL.nil ?_
    refine SG.cond_true rfl ?_
    refine SG.skip ?_
    refine SG.seq ?_
    refine SG.block ?_
    refine SG.seq ?_
    obtain ⟨s, hs, hx⟩ := begins_get he (i := i) (by omega)
    refine SG.elemDt (a := a) hm hs fun _ => ?_
    refine SG.drawL 10 10 wide rfl rfl ?_
    refine RH.val 0 rfl (by kernel_rfl) (by kernel_rfl) (by kernel_rfl) (by kernel_rfl) (Wanted.free rfl) (V.move rfl rfl) rfl ?_
    refine RH.val 1 rfl (by kernel_rfl) (by kernel_rfl) (by kernel_rfl) (by kernel_rfl) (Wanted.free rfl) (V.move rfl rfl) rfl ?_
    refine RH.val 2 rfl (by kernel_rfl) (by kernel_rfl) (by kernel_rfl) (by kernel_rfl) (Wanted.free rfl) (V.indexSl (T := RSlot) (a := a) (l := l) (j := i) rfl el23.slice rfl rfl (by repeat (first | exact List.Mem.head _ | assumption | apply List.Mem.tail)) rfl (by omega)) rfl ?_
    refine RH.val 3 rfl (by kernel_rfl) (by kernel_rfl) (by kernel_rfl) (by kernel_rfl) (Wanted.free rfl) (V.fieldAt rfl rfl fo53_1 (by repeat (first | exact List.Mem.head _ | assumption | apply List.Mem.tail))) rfl ?_
    refine RH.val 4 rfl (by kernel_rfl) (by kernel_rfl) (by kernel_rfl) (by kernel_rfl) (Wanted.free rfl) (V.loadAtF rfl on9 rfl (by repeat (first | exact List.Mem.head _ | assumption | apply List.Mem.tail)) rfl) rfl ?_
    refine RH.val 5 rfl (by kernel_rfl) (by kernel_rfl) (by kernel_rfl) (by kernel_rfl) (Wanted.free rfl) (V.move rfl rfl) rfl ?_
    refine RH.val 6 rfl (by kernel_rfl) (by kernel_rfl) (by kernel_rfl) (by kernel_rfl) (Wanted.free rfl) (V.move rfl rfl) rfl ?_
    refine RH.val 7 rfl (by kernel_rfl) (by kernel_rfl) (by kernel_rfl) (by kernel_rfl) (Wanted.free rfl) (V.indexSl (T := RS) (a := b) (l := x) (j := i) rfl el45.slice rfl rfl (by repeat (first | exact List.Mem.head _ | assumption | apply List.Mem.tail)) rfl (by omega)) rfl ?_
    refine RH.val 8 rfl (by kernel_rfl) (by kernel_rfl) (by kernel_rfl) (by kernel_rfl) (Wanted.free rfl) (V.loadSc (l := x) (y := s.data) (j := i) rfl on9 rfl (show Sl RS b n' c' x ∈ _ from (by repeat (first | exact List.Mem.head _ | assumption | apply List.Mem.tail))) hx) rfl ?_
    refine RH.cmpF 9 rfl (by kernel_rfl) (by kernel_rfl) (by kernel_rfl) (by kernel_rfl) (Wanted.free rfl) (V.bin rfl rfl rfl B.neqS) rfl (fun h => h rfl) ?_
    refine RH.done (by kernel_rfl) ?_
    refine SG.cond_false rfl ?_
    refine SG.skip ?_
    refine SG.inBlock ?_
    refine SG.region ?_
    refine RL.val (Wanted.free rfl) (V.move rfl rfl) rfl ?_
    refine RL.val (Wanted.free rfl) (V.bin rfl rfl rfl (B.addI (by omega) (by omega))) rfl ?_
    refine RL.val (Wanted.free rfl) (V.assign rfl rfl) rfl ?_
    refine RL.nil ?_
    refine SG.weaken (ih0 _ _ _ ?_ ⟨i + 1, by omega, rfl, rfl, rfl⟩) ?_ ?_
    · omega
    · repeat (first | exact EnvLe.nil _ | refine EnvLe.cons rfl ?_)
    · repeat (first | exact Ent.refl _ | (apply Ent.cons; (· repeat (first | exact Pick.here | (refine Pick.sl ?_; (· repeat (first | exact List.Mem.head _ | assumption | apply List.Mem.tail))) | apply Pick.there))) | (refine Ent.trans (Ent.drop _ _) ?_))
  · skip
    refine RL.nil ?_
    refine SG.cond_false rfl ?_
    refine SG.exit rfl ?_
    refine SG.seq ?_
    refine SG.region ?_
    refine RL.val (Wanted.free rfl) (V.assign rfl rfl) rfl ?_
    refine RL.nil ?_
    refine SG.retE (Ret.r1 Try.func33 rfl (.tmp rfl)) ?_ ⟨rfl, rfl⟩
    repeat (first | exact Ent.refl _ | (apply Ent.cons; (· repeat (first | exact Pick.here | (refine Pick.sl ?_; (· repeat (first | exact List.Mem.head _ | assumption | apply List.Mem.tail))) | apply Pick.there))) | (refine Ent.trans (Ent.drop _ _) ?_))

set_option maxRecDepth 100000 in
set_option maxHeartbeats 1000000 in
theorem keeps_law {κ : World} {L : List Assn} {n : Int} (hn : inInt n) {a : Option Addr} {k cc : Nat} {l : List Int} (hm : Sl RI a k cc l ∈ L) :
    Ctr Try.prog 9 #[vI n, .slice a k cc] κ L (fun v M => v = vB true ∧ M = L) := by
  refine Ctr.enter (vs := [vI n, .slice a k cc]) (m := 87) Try.func9 rfl rfl rfl ?_
  refine SG.seq ?_
  refine SG.region ?_
  refine RL.val (Wanted.free rfl) (V.assign rfl rfl) rfl ?_
  refine RL.nil ?_
  refine SG.seq ?_
  refine SG.region ?_
  refine RL.val (Wanted.free rfl) (V.move rfl rfl) rfl ?_
  refine RL.val (Wanted.free rfl) (V.move rfl rfl) rfl ?_
  refine RL.eff (Wanted.free rfl) (E.call rfl go15 rfl (run_ok hn (by repeat (first | exact List.Mem.head _ | assumption | apply List.Mem.tail)))) rfl ?_
  rintro _ _ ⟨a5, c5, rfl, rfl⟩
  obtain ⟨N, G, h1, h5, hG, hHl, hH⟩ := runV_facts n l
  generalize runV n l = H at hHl hH ⊢
  refine RL.val (Wanted.free rfl) (V.move rfl rfl) rfl ?_
  refine RL.val (Wanted.free rfl) (V.extract rfl rfl rfl) rfl ?_
  refine RL.val (Wanted.free rfl) (V.extract rfl rfl rfl) rfl ?_
  refine RL.val (Wanted.free rfl) (V.assign rfl rfl) rfl ?_
  refine RL.val (Wanted.free rfl) (V.assign rfl rfl) rfl ?_
  refine RL.nil ?_
  refine SG.seq ?_
  refine SG.seq ?_
  refine SG.region ?_
  refine RL.val (Wanted.free rfl) (V.move rfl rfl) rfl ?_
  refine RL.val (Wanted.free rfl) (V.not rfl rfl) rfl ?_
  refine RL.nil ?_
  refine SG.cond_false rfl ?_
  refine SG.skip ?_
  refine SG.seq ?_
  refine SG.seq ?_
  refine SG.region ?_
  refine RL.val (Wanted.free rfl) (V.assign rfl rfl) rfl ?_
  refine RL.nil ?_
  refine SG.block ?_
  refine SG.weaken (SG.loop2 (fun m al M => ∃ i : Nat, i ≤ H.length ∧ m = H.length - i ∧ al = [(0, vI n), (1, .slice a k cc), (4, vB false), (5, .slice a5 H.length c5), (6, vB true), (7, vI i)] ∧ M = Sl RClu a5 H.length c5 H :: L) (m0 := _) ⟨0, by omega, rfl, rfl, rfl⟩ ?_) ?_ ?_
  rotate_left
  · repeat (first | exact EnvLe.nil _ | refine EnvLe.cons rfl ?_)
  · repeat (first | exact Ent.refl _ | (apply Ent.cons; (· repeat (first | exact Pick.here | (refine Pick.sl ?_; (· repeat (first | exact List.Mem.head _ | assumption | apply List.Mem.tail))) | apply Pick.there))) | (refine Ent.trans (Ent.drop _ _) ?_))
  rintro _ _ _ ⟨i, hi, rfl, rfl, rfl⟩ ih0
  refine SG.seq ?_
  refine SG.seq ?_
  refine SG.region ?_
  refine RL.val (Wanted.free rfl) (V.move rfl rfl) rfl ?_
  refine RL.val (Wanted.free rfl) (V.move rfl rfl) rfl ?_
  refine RL.val (Wanted.free rfl) (V.len rfl rfl el31.under rfl) rfl ?_
  refine RL.cmp (Wanted.free rfl) (V.bin rfl rfl rfl B.lss) rfl (fun h15 => ?_) (fun h15 => ?_)
  · skip
    refine RL.nil ?_
    refine SG.cond_true rfl ?_
    refine SG.skip ?_
    refine SG.seq ?_
    refine SG.block ?_
    refine SG.seq ?_
    refine SG.region ?_
    refine RL.val (Wanted.free rfl) (V.assign rfl rfl) rfl ?_
    refine RL.nil ?_
    refine SG.block ?_
    refine SG.weaken (SG.loop2 (fun m0 al M => ∃ j : Nat, j ≤ N ∧ m0 = N - j ∧ al = [(0, vI n), (1, .slice a k cc), (4, vB false), (5, .slice a5 H.length c5), (6, vB true), (7, vI i), (8, vI j)] ∧ M = Sl RClu a5 H.length c5 H :: L) (m0 := _) ⟨0, by omega, rfl, rfl, rfl⟩ ?_) ?_ ?_
    rotate_left
    · repeat (first | exact EnvLe.nil _ | refine EnvLe.cons rfl ?_)
    · repeat (first | exact Ent.refl _ | (apply Ent.cons; (· repeat (first | exact Pick.here | (refine Pick.sl ?_; (· repeat (first | exact List.Mem.head _ | assumption | apply List.Mem.tail))) | apply Pick.there))) | (refine Ent.trans (Ent.drop _ _) ?_))
    rintro _ _ _ ⟨j, hj, rfl, rfl, rfl⟩ ih1
    refine SG.seq ?_
    refine SG.seq ?_
    obtain ⟨c, hc⟩ : ∃ c, H[i]? = some c := ⟨_, List.getElem?_eq_getElem (by omega)⟩
    have hHc := hH _ _ hc
    refine SG.elemClu (l := H) (a := a5) (j := i) (by repeat (first | exact List.Mem.head _ | assumption | apply List.Mem.tail)) hc fun na nn nc sa sn sc => ?_
    refine SG.sl (T := RPeer) (a := na) (l := c.nodes) (by repeat (first | exact List.Mem.head _ | assumption | apply List.Mem.tail)) fun hnn _ _ => ?_
    rw [hHc.len] at hnn
    subst hnn
    refine SG.region ?_
    refine RL.val (Wanted.free rfl) (V.move rfl rfl) rfl ?_
    refine RL.val (Wanted.free rfl) (V.move rfl rfl) rfl ?_
    refine RL.val (Wanted.free rfl) (V.move rfl rfl) rfl ?_
    refine RL.val (Wanted.free rfl) (V.indexSl (T := RClu) (l := H) (a := a5) (j := i) rfl el31.slice rfl rfl (by repeat (first | exact List.Mem.head _ | assumption | apply List.Mem.tail)) rfl (by omega)) rfl ?_
    refine RL.val (Wanted.free rfl) (V.fieldAt rfl rfl fo37_0 (by repeat (first | exact List.Mem.head _ | assumption | apply List.Mem.tail))) rfl ?_
    refine RL.val (Wanted.free rfl) (V.loadAtF rfl on34 rfl (by repeat (first | exact List.Mem.head _ | assumption | apply List.Mem.tail)) rfl) rfl ?_
    refine RL.val (Wanted.free rfl) (V.len rfl rfl el34.under rfl) rfl ?_
    refine RL.cmp (Wanted.free rfl) (V.bin rfl rfl rfl B.lss) rfl (fun h24 => ?_) (fun h24 => ?_)
    · skip
      refine RL.nil ?_
      refine SG.cond_true rfl ?_
      refine SG.skip ?_
      refine SG.seq ?_
      refine SG.block ?_
      refine SG.seq ?_
      obtain ⟨hpj, hpk, hpo⟩ := hHc.get (i := j) (by omega)
      refine SG.region ?_
      refine RL.val (Wanted.free rfl) (V.move rfl rfl) rfl ?_
      refine RL.val (Wanted.free rfl) (V.move rfl rfl) rfl ?_
      refine RL.val (Wanted.free rfl) (V.indexSl (T := RClu) (l := H) (a := a5) (j := i) rfl el31.slice rfl rfl (by repeat (first | exact List.Mem.head _ | assumption | apply List.Mem.tail)) rfl (by omega)) rfl ?_
      refine RL.val (Wanted.free rfl) (V.fieldAt rfl rfl fo37_0 (by repeat (first | exact List.Mem.head _ | assumption | apply List.Mem.tail))) rfl ?_
      refine RL.val (Wanted.free rfl) (V.loadAtF rfl on34 rfl (by repeat (first | exact List.Mem.head _ | assumption | apply List.Mem.tail)) rfl) rfl ?_
      refine RL.val (Wanted.free rfl) (V.move rfl rfl) rfl ?_
      refine RL.val (Wanted.free rfl) (V.indexSl (T := RPeer) (l := c.nodes) (a := na) (j := j) rfl el34.slice rfl rfl (by repeat (first | exact List.Mem.head _ | assumption | apply List.Mem.tail)) rfl (by rw [hHc.len]; omega)) rfl ?_
      refine RL.eff (Wanted.free rfl) (E.loadElem (T := RPeer) (l := c.nodes) (a := na) (j := j) rfl ag26 rfl (by repeat (first | exact List.Mem.head _ | assumption | apply List.Mem.tail)) hpj) rfl ?_
      rintro _ _ ⟨u45, rfl, rfl⟩
      refine RL.eff (Wanted.free rfl) (E.alloc rfl ze26) rfl ?_
      rintro _ _ ⟨b9, rfl, rfl⟩
      refine RL.openPeer (us := u45) (Pick.rd (T := RPeer) (by repeat (first | exact List.Mem.head _ | assumption | apply List.Mem.tail))) fun pa pn pc va vn vc xa xn xc hus => ?_
      subst hus
      refine RL.eff (Wanted.free rfl) (E.storeWhole rfl rfl rfl (by rfl) sz26 (by repeat (first | exact Pick.here | assumption | apply Pick.there)) pv_one (by rfl)) rfl ?_
      rintro _ _ rfl
      refine RL.nil ?_
      refine SG.seq ?_
      refine SG.seq ?_
      refine SG.region ?_
      refine RL.val (Wanted.free rfl) (V.fieldAddr rfl rfl fo26_4) rfl ?_
      refine RL.val (Wanted.free rfl) (V.load rfl on3 rfl (by repeat (first | exact Pick.here | assumption | apply Pick.there)) rfl) rfl ?_
      refine RL.cmp (Wanted.free rfl) (V.bin rfl rfl rfl B.neq) rfl (fun h37 => ?_) (fun h37 => ?_)
      · skip
        refine RL.nil ?_
        refine SG.cond_true rfl ?_
        refine SG.exit rfl ?_
        refine SG.region ?_
        refine RL.val (Wanted.free rfl) (V.move rfl rfl) rfl ?_
        refine RL.val (Wanted.free rfl) (V.bin rfl rfl rfl (B.addI (by omega) (by omega))) rfl ?_
        refine RL.val (Wanted.free rfl) (V.assign rfl rfl) rfl ?_
        refine RL.nil ?_
        refine SG.weaken (ih1 _ _ _ ?_ ⟨j + 1, by omega, rfl, rfl, rfl⟩) ?_ ?_
        · omega
        · repeat (first | exact EnvLe.nil _ | refine EnvLe.cons rfl ?_)
        · repeat (first | exact Ent.refl _ | (apply Ent.cons; (· repeat (first | exact Pick.here | (refine Pick.sl ?_; (· repeat (first | exact List.Mem.head _ | assumption | apply List.Mem.tail))) | apply Pick.there))) | (refine Ent.trans (Ent.drop _ _) ?_))
      · skip
        refine RL.nil ?_
        refine SG.cond_false rfl ?_
        refine SG.skip ?_
        refine SG.seq ?_
        refine SG.region ?_
        refine RL.val (Wanted.free rfl) (V.assign rfl rfl) rfl ?_
        refine RL.nil ?_
        refine SG.block ?_
        refine SG.weaken (SG.loop2 (fun m0 al M => ∃ p : Nat, p ≤ i + 1 ∧ m0 = i + 1 - p ∧ al = [(0, vI n), (1, .slice a k cc), (4, vB false), (5, .slice a5 H.length c5), (6, vB true), (7, vI i), (8, vI j), (9, ptr b9 0), (10, vI p)] ∧ M = Blk b9 26 (pv (c.p j) (.slice pa pn pc) (.slice va vn vc) (.slice xa xn xc)) :: Sl RSlot pa pn pc (c.p j).log :: Sl RClu a5 H.length c5 H :: L) (m0 := _) ⟨0, by omega, rfl, rfl, rfl⟩ ?_) ?_ ?_
        rotate_left
        · repeat (first | exact EnvLe.nil _ | refine EnvLe.cons rfl ?_)
        · repeat (first | exact Ent.refl _ | (apply Ent.cons; (· repeat (first | exact Pick.here | (refine Pick.sl ?_; (· repeat (first | exact List.Mem.head _ | assumption | apply List.Mem.tail))) | apply Pick.there))) | (refine Ent.trans (Ent.drop _ _) ?_))
        rintro _ _ _ ⟨p, hp, rfl, rfl, rfl⟩ ih2
        refine SG.seq ?_
        refine SG.seq ?_
        refine SG.region ?_
        refine RL.val (Wanted.free rfl) (V.move rfl rfl) rfl ?_
        refine RL.val (Wanted.free rfl) (V.move rfl rfl) rfl ?_
        refine RL.cmp (Wanted.free rfl) (V.bin rfl rfl rfl B.leq) rfl (fun h44 => ?_) (fun h44 => ?_)
        · skip
          refine RL.nil ?_
          refine SG.cond_true rfl ?_
          refine SG.skip ?_
          refine SG.seq ?_
          refine SG.block ?_
          refine SG.seq ?_
          refine SG.region ?_
          refine RL.val (Wanted.free rfl) (V.assign rfl rfl) rfl ?_
          refine RL.nil ?_
          refine SG.block ?_
          refine SG.weaken (SG.loop2 (fun m0 al M => ∃ q : Nat, q ≤ N ∧ m0 = N - q ∧ al = [(0, vI n), (1, .slice a k cc), (4, vB false), (5, .slice a5 H.length c5), (6, vB true), (7, vI i), (8, vI j), (9, ptr b9 0), (10, vI p), (11, vI q)] ∧ M = Blk b9 26 (pv (c.p j) (.slice pa pn pc) (.slice va vn vc) (.slice xa xn xc)) :: Sl RSlot pa pn pc (c.p j).log :: Sl RClu a5 H.length c5 H :: L) (m0 := _) ⟨0, by omega, rfl, rfl, rfl⟩ ?_) ?_ ?_
          rotate_left
          · repeat (first | exact EnvLe.nil _ | refine EnvLe.cons rfl ?_)
          · repeat (first | exact Ent.refl _ | (apply Ent.cons; (· repeat (first | exact Pick.here | (refine Pick.sl ?_; (· repeat (first | exact List.Mem.head _ | assumption | apply List.Mem.tail))) | apply Pick.there))) | (refine Ent.trans (Ent.drop _ _) ?_))
          rintro _ _ _ ⟨q, hq, rfl, rfl, rfl⟩ ih3
          refine SG.seq ?_
          refine SG.seq ?_
          obtain ⟨c2, hc2⟩ : ∃ c, H[p]? = some c := ⟨_, List.getElem?_eq_getElem (by omega)⟩
          have hHc2 := hH _ _ hc2
          refine SG.elemClu (l := H) (a := a5) (j := p) (by repeat (first | exact List.Mem.head _ | assumption | apply List.Mem.tail)) hc2 fun na nn nc sa sn sc => ?_
          refine SG.sl (T := RPeer) (a := na) (l := c2.nodes) (by repeat (first | exact List.Mem.head _ | assumption | apply List.Mem.tail)) fun hnn _ _ => ?_
          rw [hHc2.len] at hnn
          subst hnn
          refine SG.region ?_
          refine RL.val (Wanted.free rfl) (V.move rfl rfl) rfl ?_
          refine RL.val (Wanted.free rfl) (V.move rfl rfl) rfl ?_
          refine RL.val (Wanted.free rfl) (V.move rfl rfl) rfl ?_
          refine RL.val (Wanted.free rfl) (V.indexSl (T := RClu) (l := H) (a := a5) (j := p) rfl el31.slice rfl rfl (by repeat (first | exact List.Mem.head _ | assumption | apply List.Mem.tail)) rfl (by omega)) rfl ?_
          refine RL.val (Wanted.free rfl) (V.fieldAt rfl rfl fo37_0 (by repeat (first | exact List.Mem.head _ | assumption | apply List.Mem.tail))) rfl ?_
          refine RL.val (Wanted.free rfl) (V.loadAtF rfl on34 rfl (by repeat (first | exact List.Mem.head _ | assumption | apply List.Mem.tail)) rfl) rfl ?_
          refine RL.val (Wanted.free rfl) (V.len rfl rfl el34.under rfl) rfl ?_
          refine RL.cmp (Wanted.free rfl) (V.bin rfl rfl rfl B.lss) rfl (fun h53 => ?_) (fun h53 => ?_)
          · skip
            refine RL.nil ?_
            refine SG.cond_true rfl ?_
            refine SG.skip ?_
            refine SG.seq ?_
            refine SG.block ?_
            refine SG.seq ?_
            obtain ⟨hqj, hqk, hqo⟩ := hHc2.get (i := q) (by omega)
            refine SG.region ?_
            refine RL.val (Wanted.free rfl) (V.move rfl rfl) rfl ?_
            refine RL.val (Wanted.free rfl) (V.move rfl rfl) rfl ?_
            refine RL.val (Wanted.free rfl) (V.indexSl (T := RClu) (l := H) (a := a5) (j := p) rfl el31.slice rfl rfl (by repeat (first | exact List.Mem.head _ | assumption | apply List.Mem.tail)) rfl (by omega)) rfl ?_
            refine RL.val (Wanted.free rfl) (V.fieldAt rfl rfl fo37_0 (by repeat (first | exact List.Mem.head _ | assumption | apply List.Mem.tail))) rfl ?_
            refine RL.val (Wanted.free rfl) (V.loadAtF rfl on34 rfl (by repeat (first | exact List.Mem.head _ | assumption | apply List.Mem.tail)) rfl) rfl ?_
            refine RL.val (Wanted.free rfl) (V.move rfl rfl) rfl ?_
            refine RL.val (Wanted.free rfl) (V.indexSl (T := RPeer) (l := c2.nodes) (a := na) (j := q) rfl el34.slice rfl rfl (by repeat (first | exact List.Mem.head _ | assumption | apply List.Mem.tail)) rfl (by rw [hHc2.len]; omega)) rfl ?_
            refine RL.eff (Wanted.free rfl) (E.loadElem (T := RPeer) (l := c2.nodes) (a := na) (j := q) rfl ag26 rfl (by repeat (first | exact List.Mem.head _ | assumption | apply List.Mem.tail)) hqj) rfl ?_
            rintro _ _ ⟨u71, rfl, rfl⟩
            refine RL.eff (Wanted.free rfl) (E.alloc rfl ze26) rfl ?_
            rintro _ _ ⟨b12, rfl, rfl⟩
            refine RL.openPeer (us := u71) (Pick.rd (T := RPeer) (by repeat (first | exact List.Mem.head _ | assumption | apply List.Mem.tail))) fun qa qn qc wa wn wc ya yn yc hus => ?_
            subst hus
            refine RL.eff (Wanted.free rfl) (E.storeWhole rfl rfl rfl (by rfl) sz26 (by repeat (first | exact Pick.here | assumption | apply Pick.there)) pv_one (by rfl)) rfl ?_
            rintro _ _ rfl
            refine RL.nil ?_
            refine SG.seq ?_
            obtain ⟨n1, n5, i0, i1, t0, t1, ll, lv, lm, vn, mn, c0, c1, mm, dd⟩ := hqo
            refine SG.region ?_
            refine RL.val (Wanted.free rfl) (V.loadAgg (us := pv (c2.p q) (.slice qa qn qc) (.slice wa wn wc) (.slice ya yn yc)) rfl ag26 rfl (by repeat (first | exact Pick.here | assumption | apply Pick.there)) rfl rfl) rfl ?_
            refine RL.eff (Wanted.free rfl) (E.call rfl go26 rfl (pCom_ok (p := c2.p q) (by repeat (first | exact List.Mem.head _ | assumption | apply List.Mem.tail)) (by omega) (by omega) (by omega) c0 c1 dd)) rfl ?_
            rintro _ _ ⟨a73, c73, rfl, rfl⟩
            refine RL.val (Wanted.free rfl) (V.assign rfl rfl) rfl ?_
            refine RL.nil ?_
            refine SG.seq ?_
            refine SG.region ?_
            refine RL.val (Wanted.free rfl) (V.fieldAddr rfl rfl fo26_2) rfl ?_
            refine RL.val (Wanted.free rfl) (V.load rfl on3 rfl (by repeat (first | exact Pick.here | assumption | apply Pick.there)) rfl) rfl ?_
            refine RL.val (Wanted.free rfl) (V.fieldAddr rfl rfl fo26_2) rfl ?_
            refine RL.val (Wanted.free rfl) (V.load rfl on3 rfl (by repeat (first | exact Pick.here | assumption | apply Pick.there)) rfl) rfl ?_
            refine RL.cmp (Wanted.free rfl) (V.bin rfl rfl rfl B.lss) rfl (fun h71 => ?_) (fun h71 => ?_)
            · skip
              refine RL.val (Wanted.free rfl) (V.move rfl rfl) rfl ?_
              refine RL.val (Wanted.yes rfl rfl rfl rfl) (V.fieldAddr rfl rfl fo26_6) rfl ?_
              refine RL.val (Wanted.yes rfl rfl rfl rfl) (V.load rfl on23 rfl (by repeat (first | exact Pick.here | assumption | apply Pick.there)) rfl) rfl ?_
              refine RL.val (Wanted.yes rfl rfl rfl rfl) (V.move rfl rfl) rfl ?_
              refine RL.eff (Wanted.yes rfl rfl rfl rfl) (E.call rfl go33 rfl (begins_ok (l := (c.p j).log) (x := committed (c2.p q)) (a := pa) (b := a73) (by repeat (first | exact List.Mem.head _ | assumption | apply List.Mem.tail)) (by repeat (first | exact List.Mem.head _ | assumption | apply List.Mem.tail)) (begins_of (keeps hG hpk hqk (by omega) (by omega)) rfl))) rfl ?_
              rintro _ _ ⟨rfl, rfl⟩
              refine RL.val (Wanted.yes rfl rfl rfl rfl) (V.not rfl rfl) rfl ?_
              refine RL.val (Wanted.free rfl) (V.pick_true rfl rfl rfl) rfl ?_
              refine RL.nil ?_
              refine SG.cond_false rfl ?_
              refine SG.skip ?_
              refine SG.inBlock ?_
              refine SG.region ?_
              refine RL.val (Wanted.free rfl) (V.move rfl rfl) rfl ?_
              refine RL.val (Wanted.free rfl) (V.bin rfl rfl rfl (B.addI (by omega) (by omega))) rfl ?_
              refine RL.val (Wanted.free rfl) (V.assign rfl rfl) rfl ?_
              refine RL.nil ?_
              refine SG.weaken (ih3 _ _ _ ?_ ⟨q + 1, by omega, rfl, rfl, rfl⟩) ?_ ?_
              · omega
              · repeat (first | exact EnvLe.nil _ | refine EnvLe.cons rfl ?_)
              · repeat (first | exact Ent.refl _ | (apply Ent.cons; (· repeat (first | exact Pick.here | (refine Pick.sl ?_; (· repeat (first | exact List.Mem.head _ | assumption | apply List.Mem.tail))) | apply Pick.there))) | (refine Ent.trans (Ent.drop _ _) ?_))
            · skip
              refine RL.val (Wanted.free rfl) (V.move rfl rfl) rfl ?_
              refine RL.skip (Wanted.no rfl rfl rfl rfl rfl) rfl ?_
              refine RL.skip (Wanted.no rfl rfl rfl rfl rfl) rfl ?_
              refine RL.skip (Wanted.no rfl rfl rfl rfl rfl) rfl ?_
              refine RL.skip (Wanted.no rfl rfl rfl rfl rfl) rfl ?_
              refine RL.skip (Wanted.no rfl rfl rfl rfl rfl) rfl ?_
              refine RL.val (Wanted.free rfl) (V.pick_false rfl rfl rfl) rfl ?_
              refine RL.nil ?_
              refine SG.cond_false rfl ?_
              refine SG.skip ?_
              refine SG.inBlock ?_
              refine SG.region ?_
              refine RL.val (Wanted.free rfl) (V.move rfl rfl) rfl ?_
              refine RL.val (Wanted.free rfl) (V.bin rfl rfl rfl (B.addI (by omega) (by omega))) rfl ?_
              refine RL.val (Wanted.free rfl) (V.assign rfl rfl) rfl ?_
              refine RL.nil ?_
              refine SG.weaken (ih3 _ _ _ ?_ ⟨q + 1, by omega, rfl, rfl, rfl⟩) ?_ ?_
              · omega
              · repeat (first | exact EnvLe.nil _ | refine EnvLe.cons rfl ?_)
              · repeat (first | exact Ent.refl _ | (apply Ent.cons; (· repeat (first | exact Pick.here | (refine Pick.sl ?_; (· repeat (first | exact List.Mem.head _ | assumption | apply List.Mem.tail))) | apply Pick.there))) | (refine Ent.trans (Ent.drop _ _) ?_))
          · skip
            refine RL.nil ?_
            refine SG.cond_false rfl ?_
            refine SG.exit rfl ?_
            refine SG.inBlock ?_
            refine SG.region ?_
            refine RL.val (Wanted.free rfl) (V.move rfl rfl) rfl ?_
            refine RL.val (Wanted.free rfl) (V.bin rfl rfl rfl (B.addI (by omega) (by omega))) rfl ?_
            refine RL.val (Wanted.free rfl) (V.assign rfl rfl) rfl ?_
            refine RL.nil ?_
            refine SG.weaken (ih2 _ _ _ ?_ ⟨p + 1, by omega, rfl, rfl, rfl⟩) ?_ ?_
            · omega
            · repeat (first | exact EnvLe.nil _ | refine EnvLe.cons rfl ?_)
            · repeat (first | exact Ent.refl _ | (apply Ent.cons; (· repeat (first | exact Pick.here | (refine Pick.sl ?_; (· repeat (first | exact List.Mem.head _ | assumption | apply List.Mem.tail))) | apply Pick.there))) | (refine Ent.trans (Ent.drop _ _) ?_))
        · skip
          refine RL.nil ?_
          refine SG.cond_false rfl ?_
          refine SG.exit rfl ?_
          refine SG.inBlock ?_
          refine SG.region ?_
          refine RL.val (Wanted.free rfl) (V.move rfl rfl) rfl ?_
          refine RL.val (Wanted.free rfl) (V.bin rfl rfl rfl (B.addI (by omega) (by omega))) rfl ?_
          refine RL.val (Wanted.free rfl) (V.assign rfl rfl) rfl ?_
          refine RL.nil ?_
          refine SG.weaken (ih1 _ _ _ ?_ ⟨j + 1, by omega, rfl, rfl, rfl⟩) ?_ ?_
          · omega
          · repeat (first | exact EnvLe.nil _ | refine EnvLe.cons rfl ?_)
          · repeat (first | exact Ent.refl _ | (apply Ent.cons; (· repeat (first | exact Pick.here | (refine Pick.sl ?_; (· repeat (first | exact List.Mem.head _ | assumption | apply List.Mem.tail))) | apply Pick.there))) | (refine Ent.trans (Ent.drop _ _) ?_))
    · skip
      refine RL.nil ?_
      refine SG.cond_false rfl ?_
      refine SG.exit rfl ?_
      refine SG.inBlock ?_
      refine SG.region ?_
      refine RL.val (Wanted.free rfl) (V.move rfl rfl) rfl ?_
      refine RL.val (Wanted.free rfl) (V.bin rfl rfl rfl (B.addI (by omega) (by omega))) rfl ?_
      refine RL.val (Wanted.free rfl) (V.assign rfl rfl) rfl ?_
      refine RL.nil ?_
      refine SG.weaken (ih0 _ _ _ ?_ ⟨i + 1, by omega, rfl, rfl, rfl⟩) ?_ ?_
      · omega
      · repeat (first | exact EnvLe.nil _ | refine EnvLe.cons rfl ?_)
      · repeat (first | exact Ent.refl _ | (apply Ent.cons; (· repeat (first | exact Pick.here | (refine Pick.sl ?_; (· repeat (first | exact List.Mem.head _ | assumption | apply List.Mem.tail))) | apply Pick.there))) | (refine Ent.trans (Ent.drop _ _) ?_))
  · skip
    refine RL.nil ?_
    refine SG.cond_false rfl ?_
    refine SG.exit rfl ?_
    refine SG.seq ?_
    refine SG.region ?_
    refine RL.eff (Wanted.free rfl) (E.call rfl go28 rfl (lives_ok)) rfl ?_
    rintro _ _ ⟨rfl, rfl⟩
    refine RL.val (Wanted.free rfl) (V.assign rfl rfl) rfl ?_
    refine RL.nil ?_
    refine SG.retE (Ret.r1 Try.func9 rfl (.tmp rfl)) ?_ ⟨rfl, rfl⟩
    repeat (first | exact Ent.refl _ | (apply Ent.cons; (· repeat (first | exact Pick.here | (refine Pick.sl ?_; (· repeat (first | exact List.Mem.head _ | assumption | apply List.Mem.tail))) | apply Pick.there))) | (refine Ent.trans (Ent.drop _ _) ?_))

end Go.Proofs.Ytilcnglcflohoaa
