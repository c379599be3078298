/- The walk of ReplicaAgrees. -/
import Derived.Test.YtilcnglcflohoaaLawp
namespace Go.Proofs.Ytilcnglcflohoaa
open Go.Wk Go.Rp

def Top (N : Nat) (G : Gh) (top : List (List UInt8)) : Prop := top = [] ∨ ∃ k q, POK N G k q ∧ q.commit ≤ q.log.length ∧ top = committed q
theorem top_agree {N : Nat} {G : Gh} (hG : GOK N G) {top : List (List UInt8)} (ht : Top N G top) {i : Int} {p : Peer} (hp : POK N G i p) : (committed p).take (min top.length (committed p).length) = top.take (min top.length (committed p).length) := by
  rcases ht with rfl | ⟨k, q, hq, _, rfl⟩
  · simp
  · unfold committed
    simp only [List.length_map]
    rcases agree hG hp hq with h | h
    · exact map_take_eq h (by omega)
    · exact (map_take_eq h (by omega)).symm
set_option maxRecDepth 100000 in
set_option maxHeartbeats 1000000 in
theorem agrees_law {κ : World} {L : List Assn} {n : Int} (hn : inInt n) {a : Option Addr} {k cc : Nat} {l : List Int} (hm : Sl RI a k cc l ∈ L) :
    Ctr Try.prog 8 #[vI n, .slice a k cc] κ L (fun v M => v = vB true ∧ M = L) := by
  refine Ctr.enter (vs := [vI n, .slice a k cc]) (m := 65) Try.func8 rfl rfl rfl ?_
  refine SG.seq ?_
  refine SG.region ?_
  refine RL.val (Wanted.free rfl) (V.assign rfl rfl) rfl ?_
  refine RL.nil ?_
  refine SG.seq ?_
  refine SG.region ?_
  refine RL.val (Wanted.free rfl) (V.move rfl rfl) rfl ?_
  refine RL.val (Wanted.free rfl) (V.move rfl rfl) rfl ?_
  refine RL.eff (Wanted.free rfl) (E.call rfl go15 rfl (run_ok hn (by repeat (first | exact List.Mem.head _ | assumption | apply List.Mem.tail)))) rfl ?_
  rintro _ _ ⟨a5, c5, rfl, rfl⟩
  obtain ⟨N, G, h1, h5, hG, hHl, hH⟩ := runV_facts n l
  generalize runV n l = H at hHl hH ⊢
  refine RL.val (Wanted.free rfl) (V.move rfl rfl) rfl ?_
  refine RL.val (Wanted.free rfl) (V.extract rfl rfl rfl) rfl ?_
  refine RL.val (Wanted.free rfl) (V.extract rfl rfl rfl) rfl ?_
  refine RL.val (Wanted.free rfl) (V.assign rfl rfl) rfl ?_
  refine RL.val (Wanted.free rfl) (V.assign rfl rfl) rfl ?_
  refine RL.nil ?_
  refine SG.seq ?_
  refine SG.seq ?_
  refine SG.region ?_
  refine RL.val (Wanted.free rfl) (V.move rfl rfl) rfl ?_
  refine RL.val (Wanted.free rfl) (V.not rfl rfl) rfl ?_
  refine RL.nil ?_
  refine SG.cond_false rfl ?_
  refine SG.skip ?_
  refine SG.seq ?_
  refine SG.ent (Sl.nil (T := RS)) ?_
  refine SG.region ?_
  refine RL.val (Wanted.free rfl) (V.assign rfl rfl) rfl ?_
  refine RL.nil ?_
  refine SG.seq ?_
  refine SG.seq ?_
  refine SG.region ?_
  refine RL.val (Wanted.free rfl) (V.assign rfl rfl) rfl ?_
  refine RL.nil ?_
  refine SG.block ?_
  refine SG.weaken (SG.loop2 (fun m al M => ∃ (i : Nat) (a7 : Option Addr) (n7 c7 : Nat) (top : List (List UInt8)), i ≤ H.length ∧ m = H.length - i ∧ Top N G top ∧ al = [(0, vI n), (1, .slice a k cc), (4, vB false), (5, .slice a5 H.length c5), (6, vB true), (7, .slice a7 n7 c7), (8, vI i)] ∧ M = Sl RS a7 n7 c7 top :: Sl RClu a5 H.length c5 H :: L) (m0 := _) ⟨0, none, 0, 0, [], by omega, rfl, .inl rfl, rfl, rfl⟩ ?_) ?_ ?_
  rotate_left
  · repeat (first | exact EnvLe.nil _ | refine EnvLe.cons rfl ?_)
  · repeat (first | exact Ent.refl _ | (apply Ent.cons; (· repeat (first | exact Pick.here | (refine Pick.sl ?_; (· repeat (first | exact List.Mem.head _ | assumption | apply List.Mem.tail))) | apply Pick.there))) | (refine Ent.trans (Ent.drop _ _) ?_))
  rintro _ _ _ ⟨i, a7, n7, c7, top, hi, rfl, hT, rfl, rfl⟩ ih0
  refine SG.seq ?_
  refine SG.seq ?_
  refine SG.region ?_
  refine RL.val (Wanted.free rfl) (V.move rfl rfl) rfl ?_
  refine RL.val (Wanted.free rfl) (V.move rfl rfl) rfl ?_
  refine RL.val (Wanted.free rfl) (V.len rfl rfl el31.under rfl) rfl ?_
  refine RL.cmp (Wanted.free rfl) (V.bin rfl rfl rfl B.lss) rfl (fun h16 => ?_) (fun h16 => ?_)
  · skip
    refine RL.nil ?_
    refine SG.cond_true rfl ?_
    refine SG.skip ?_
    refine SG.seq ?_
    refine SG.block ?_
    refine SG.seq ?_
    refine SG.region ?_
    refine RL.val (Wanted.free rfl) (V.assign rfl rfl) rfl ?_
    refine RL.nil ?_
    refine SG.block ?_
    refine SG.weaken (SG.loop2 (fun m0 al M => ∃ (j : Nat) (a7 : Option Addr) (n7 c7 : Nat) (top : List (List UInt8)), j ≤ N ∧ m0 = N - j ∧ Top N G top ∧ al = [(0, vI n), (1, .slice a k cc), (4, vB false), (5, .slice a5 H.length c5), (6, vB true), (7, .slice a7 n7 c7), (8, vI i), (9, vI j)] ∧ M = Sl RS a7 n7 c7 top :: Sl RClu a5 H.length c5 H :: L) (m0 := _) ⟨0, a7, n7, c7, top, by omega, rfl, hT, rfl, rfl⟩ ?_) ?_ ?_
    rotate_left
    · repeat (first | exact EnvLe.nil _ | refine EnvLe.cons rfl ?_)
    · repeat (first | exact Ent.refl _ | (apply Ent.cons; (· repeat (first | exact Pick.here | (refine Pick.sl ?_; (· repeat (first | exact List.Mem.head _ | assumption | apply List.Mem.tail))) | apply Pick.there))) | (refine Ent.trans (Ent.drop _ _) ?_))
    rintro _ _ _ ⟨j, a7, n7, c7, top, hj, rfl, hT, rfl, rfl⟩ ih1
    refine SG.seq ?_
    refine SG.seq ?_
    obtain ⟨c, hc⟩ : ∃ c, H[i]? = some c := ⟨_, List.getElem?_eq_getElem (by omega)⟩
    have hHc := hH _ _ hc
    refine SG.elemClu (l := H) (a := a5) (j := i) (by repeat (first | exact List.Mem.head _ | assumption | apply List.Mem.tail)) hc fun na nn nc sa sn sc => ?_
    refine SG.sl (T := RPeer) (a := na) (l := c.nodes) (by repeat (first | exact List.Mem.head _ | assumption | apply List.Mem.tail)) fun hnn _ _ => ?_
    rw [hHc.len] at hnn
    subst hnn
    refine SG.region ?_
    refine RL.val (Wanted.free rfl) (V.move rfl rfl) rfl ?_
    refine RL.val (Wanted.free rfl) (V.move rfl rfl) rfl ?_
    refine RL.val (Wanted.free rfl) (V.move rfl rfl) rfl ?_
    refine RL.val (Wanted.free rfl) (V.indexSl (T := RClu) (l := H) (a := a5) (j := i) rfl el31.slice rfl rfl (by repeat (first | exact List.Mem.head _ | assumption | apply List.Mem.tail)) rfl (by omega)) rfl ?_
    refine RL.val (Wanted.free rfl) (V.fieldAt rfl rfl fo37_0 (by repeat (first | exact List.Mem.head _ | assumption | apply List.Mem.tail))) rfl ?_
    refine RL.val (Wanted.free rfl) (V.loadAtF rfl on34 rfl (by repeat (first | exact List.Mem.head _ | assumption | apply List.Mem.tail)) rfl) rfl ?_
    refine RL.val (Wanted.free rfl) (V.len rfl rfl el34.under rfl) rfl ?_
    refine RL.cmp (Wanted.free rfl) (V.bin rfl rfl rfl B.lss) rfl (fun h25 => ?_) (fun h25 => ?_)
    · skip
      refine RL.nil ?_
      refine SG.cond_true rfl ?_
      refine SG.skip ?_
      refine SG.seq ?_
      refine SG.block ?_
      refine SG.seq ?_
      obtain ⟨hpj, hpk, hpo⟩ := hHc.get (i := j) (by omega)
      obtain ⟨n1, n5, i0, i1, t0, t1, ll, lv, lm, vn, mn, c0, c1, mm, dd⟩ := hpo
      refine SG.region ?_
      refine RL.val (Wanted.free rfl) (V.move rfl rfl) rfl ?_
      refine RL.val (Wanted.free rfl) (V.move rfl rfl) rfl ?_
      refine RL.val (Wanted.free rfl) (V.indexSl (T := RClu) (l := H) (a := a5) (j := i) rfl el31.slice rfl rfl (by repeat (first | exact List.Mem.head _ | assumption | apply List.Mem.tail)) rfl (by omega)) rfl ?_
      refine RL.val (Wanted.free rfl) (V.fieldAt rfl rfl fo37_0 (by repeat (first | exact List.Mem.head _ | assumption | apply List.Mem.tail))) rfl ?_
      refine RL.val (Wanted.free rfl) (V.loadAtF rfl on34 rfl (by repeat (first | exact List.Mem.head _ | assumption | apply List.Mem.tail)) rfl) rfl ?_
      refine RL.val (Wanted.free rfl) (V.move rfl rfl) rfl ?_
      refine RL.val (Wanted.free rfl) (V.indexSl (T := RPeer) (l := c.nodes) (a := na) (j := j) rfl el34.slice rfl rfl (by repeat (first | exact List.Mem.head _ | assumption | apply List.Mem.tail)) rfl (by rw [hHc.len]; omega)) rfl ?_
      refine RL.eff (Wanted.free rfl) (E.loadElem (T := RPeer) (l := c.nodes) (a := na) (j := j) rfl ag26 rfl (by repeat (first | exact List.Mem.head _ | assumption | apply List.Mem.tail)) hpj) rfl ?_
      rintro _ _ ⟨u43, rfl, rfl⟩
      refine RL.eff (Wanted.free rfl) (E.call rfl go26 rfl (pCom_ok (p := c.p j) (by repeat (first | exact List.Mem.head _ | assumption | apply List.Mem.tail)) (by omega) (by omega) (by omega) c0 c1 dd)) rfl ?_
      rintro _ _ ⟨a44, c44, rfl, rfl⟩
      refine RL.val (Wanted.free rfl) (V.assign rfl rfl) rfl ?_
      refine RL.nil ?_
      refine SG.seq ?_
      have htl := top_agree hG hT hpk
      have hcq := hpk.com.2.1
      generalize hcp : committed (c.p j) = com at htl ⊢
      refine SG.sl (T := RS) (a := a7) (l := top) (by repeat (first | exact List.Mem.head _ | assumption | apply List.Mem.tail)) fun h7 hc7 _ => ?_
      refine SG.sl (T := RS) (a := a44) (l := com) (by repeat (first | exact List.Mem.head _ | assumption | apply List.Mem.tail)) fun _ hc44 _ => ?_
      subst h7
      refine SG.region ?_
      refine RL.val (Wanted.free rfl) (V.move rfl rfl) rfl ?_
      refine RL.val (Wanted.free rfl) (V.len rfl rfl el45.under rfl) rfl ?_
      refine RL.val (Wanted.free rfl) (V.move rfl rfl) rfl ?_
      refine RL.val (Wanted.free rfl) (V.len rfl rfl el45.under rfl) rfl ?_
      refine RL.val (Wanted.free rfl) (V.min rfl rfl rfl rfl) rfl ?_
      rw [min_cast]
      refine RL.val (Wanted.free rfl) (V.assign rfl rfl) rfl ?_
      refine RL.nil ?_
      refine SG.seq ?_
      refine SG.seq ?_
      generalize hq : min top.length com.length = q at htl ⊢
      refine SG.cut (lo := 0) (hi := q) (l' := com.take q) (a := a44) (T := RS) (by repeat (first | exact List.Mem.head _ | assumption | apply List.Mem.tail)) (by omega) (by omega) (by simp) ?_
      refine SG.cut (lo := 0) (hi := q) (l' := top.take q) (a := a7) (T := RS) (by repeat (first | exact List.Mem.head _ | assumption | apply List.Mem.tail)) (by omega) (by omega) (by simp) ?_
      refine SG.drawL 8 8 wide rfl rfl ?_
      refine RH.val 0 rfl (by kernel_rfl) (by kernel_rfl) (by kernel_rfl) (by kernel_rfl) (Wanted.free rfl) (V.move rfl rfl) rfl ?_
      refine RH.val 1 rfl (by kernel_rfl) (by kernel_rfl) (by kernel_rfl) (by kernel_rfl) (Wanted.free rfl) (V.move rfl rfl) rfl ?_
      refine RH.val 2 rfl (by kernel_rfl) (by kernel_rfl) (by kernel_rfl) (by kernel_rfl) (Wanted.free rfl) (V.slice (T := RS) (hi := q) rfl el45.slice rfl rfl ⟨_, _, rfl, (by first | rfl | omega)⟩ (by omega) (by omega)) rfl ?_
      refine RH.val 3 rfl (by kernel_rfl) (by kernel_rfl) (by kernel_rfl) (by kernel_rfl) (Wanted.free rfl) (V.move rfl rfl) rfl ?_
      refine RH.val 4 rfl (by kernel_rfl) (by kernel_rfl) (by kernel_rfl) (by kernel_rfl) (Wanted.free rfl) (V.move rfl rfl) rfl ?_
      refine RH.val 5 rfl (by kernel_rfl) (by kernel_rfl) (by kernel_rfl) (by kernel_rfl) (Wanted.free rfl) (V.slice (T := RS) (hi := q) rfl el45.slice rfl rfl ⟨_, _, rfl, (by first | rfl | omega)⟩ (by omega) (by omega)) rfl ?_
      refine RH.one (i := 6) (by kernel_rfl) ?_
      refine RHone.eff rfl (Wanted.free rfl) (E.call rfl go25 rfl (sameStr_ok (l := com.take q) (l' := top.take q) (a := cutA a44 0 1 c44) (b := cutA a7 0 1 c7) (by repeat (first | exact List.Mem.head _ | assumption | apply List.Mem.tail)) (by repeat (first | exact List.Mem.head _ | assumption | apply List.Mem.tail)) htl)) rfl ?_
      rintro _ _ ⟨rfl, rfl⟩
      refine ⟨.inr (by repeat (first | exact Ent.refl _ | (apply Ent.cons; (· repeat (first | exact Pick.here | (refine Pick.sl ?_; (· repeat (first | exact List.Mem.head _ | assumption | apply List.Mem.tail))) | apply Pick.there))) | (refine Ent.trans (Ent.drop _ _) ?_))), ?_⟩
      refine RH.pure 7 rfl (by kernel_rfl) (by kernel_rfl) (by kernel_rfl) (by kernel_rfl) (Wanted.free rfl) (V.not rfl rfl) rfl ?_
      refine RH.done (by kernel_rfl) ?_
      refine SG.cond_false rfl ?_
      refine SG.skip ?_
      refine SG.seq ?_
      refine SG.region ?_
      refine RL.val (Wanted.free rfl) (V.move rfl rfl) rfl ?_
      refine RL.val (Wanted.free rfl) (V.len rfl rfl el45.under rfl) rfl ?_
      refine RL.val (Wanted.free rfl) (V.move rfl rfl) rfl ?_
      refine RL.val (Wanted.free rfl) (V.len rfl rfl el45.under rfl) rfl ?_
      refine RL.cmp (Wanted.free rfl) (V.bin rfl rfl rfl B.gtr) rfl (fun h53 => ?_) (fun h53 => ?_)
      · skip
        refine RL.nil ?_
        refine SG.cond_true rfl ?_
        refine SG.region ?_
        refine RL.val (Wanted.free rfl) (V.move rfl rfl) rfl ?_
        refine RL.val (Wanted.free rfl) (V.assign rfl rfl) rfl ?_
        refine RL.nil ?_
        refine SG.inBlock ?_
        refine SG.region ?_
        refine RL.val (Wanted.free rfl) (V.move rfl rfl) rfl ?_
        refine RL.val (Wanted.free rfl) (V.bin rfl rfl rfl (B.addI (by omega) (by omega))) rfl ?_
        refine RL.val (Wanted.free rfl) (V.assign rfl rfl) rfl ?_
        refine RL.nil ?_
        refine SG.weaken (ih1 _ _ _ ?_ ⟨j + 1, a44, com.length, c44, com, by omega, rfl, .inr ⟨_, _, hpk, hcq, hcp.symm⟩, rfl, rfl⟩) ?_ ?_
        · omega
        · repeat (first | exact EnvLe.nil _ | refine EnvLe.cons rfl ?_)
        · repeat (first | exact Ent.refl _ | (apply Ent.cons; (· repeat (first | exact Pick.here | (refine Pick.sl ?_; (· repeat (first | exact List.Mem.head _ | assumption | apply List.Mem.tail))) | apply Pick.there))) | (refine Ent.trans (Ent.drop _ _) ?_))
      · skip
        refine RL.nil ?_
        refine SG.cond_false rfl ?_
        refine SG.skip ?_
        refine SG.inBlock ?_
        refine SG.region ?_
        refine RL.val (Wanted.free rfl) (V.move rfl rfl) rfl ?_
        refine RL.val (Wanted.free rfl) (V.bin rfl rfl rfl (B.addI (by omega) (by omega))) rfl ?_
        refine RL.val (Wanted.free rfl) (V.assign rfl rfl) rfl ?_
        refine RL.nil ?_
        refine SG.weaken (ih1 _ _ _ ?_ ⟨j + 1, a7, top.length, c7, top, by omega, rfl, hT, rfl, rfl⟩) ?_ ?_
        · omega
        · repeat (first | exact EnvLe.nil _ | refine EnvLe.cons rfl ?_)
        · repeat (first | exact Ent.refl _ | (apply Ent.cons; (· repeat (first | exact Pick.here | (refine Pick.sl ?_; (· repeat (first | exact List.Mem.head _ | assumption | apply List.Mem.tail))) | apply Pick.there))) | (refine Ent.trans (Ent.drop _ _) ?_))
    · skip
      refine RL.nil ?_
      refine SG.cond_false rfl ?_
      refine SG.exit rfl ?_
      refine SG.inBlock ?_
      refine SG.region ?_
      refine RL.val (Wanted.free rfl) (V.move rfl rfl) rfl ?_
      refine RL.val (Wanted.free rfl) (V.bin rfl rfl rfl (B.addI (by omega) (by omega))) rfl ?_
      refine RL.val (Wanted.free rfl) (V.assign rfl rfl) rfl ?_
      refine RL.nil ?_
      refine SG.weaken (ih0 _ _ _ ?_ ⟨i + 1, a7, n7, c7, top, by omega, rfl, hT, rfl, rfl⟩) ?_ ?_
      · omega
      · repeat (first | exact EnvLe.nil _ | refine EnvLe.cons rfl ?_)
      · repeat (first | exact Ent.refl _ | (apply Ent.cons; (· repeat (first | exact Pick.here | (refine Pick.sl ?_; (· repeat (first | exact List.Mem.head _ | assumption | apply List.Mem.tail))) | apply Pick.there))) | (refine Ent.trans (Ent.drop _ _) ?_))
  · skip
    refine RL.nil ?_
    refine SG.cond_false rfl ?_
    refine SG.exit rfl ?_
    refine SG.seq ?_
    refine SG.region ?_
    refine RL.eff (Wanted.free rfl) (E.call rfl go28 rfl (lives_ok)) rfl ?_
    rintro _ _ ⟨rfl, rfl⟩
    refine RL.val (Wanted.free rfl) (V.assign rfl rfl) rfl ?_
    refine RL.nil ?_
    refine SG.retE (Ret.r1 Try.func8 rfl (.tmp rfl)) ?_ ⟨rfl, rfl⟩
    repeat (first | exact Ent.refl _ | (apply Ent.cons; (· repeat (first | exact Pick.here | (refine Pick.sl ?_; (· repeat (first | exact List.Mem.head _ | assumption | apply List.Mem.tail))) | apply Pick.there))) | (refine Ent.trans (Ent.drop _ _) ?_))

end Go.Proofs.Ytilcnglcflohoaa
