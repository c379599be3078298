/- The laws MerklePaths and MerkleGrowths. -/
import Derived.Test.YtcbloadpffjkiaaDoorMlives
import Derived.Test.YtcbloadpffjkiaaDoorMfront
namespace Go.Proofs.YtcbloadpffjkiaaDoor
open Go.Wk Go.Mk Go.Sha

set_option maxRecDepth 100000 in
set_option maxHeartbeats 1000000 in
theorem paths_law {κ : World} {L : List Assn} {n n2 : Int} (hn : inInt n) (hn2 : inInt n2) (hT : Tab L) :
    Ctr Tryd.prog 4 #[vI n, vI n2] κ L (fun v M => v = vB true ∧ M = L) := by
 refine Ctr.enter (vs := [vI n, vI n2]) (m := 50) Tryd.func4 rfl rfl rfl ?_
 unfold Tab at hT
 obtain ⟨q, hq, hq2⟩ := aroundV_nat (n := n2) (most := 71) (by omega)
 refine SG.seq ?_
 refine SG.region ?_
 refine RL.val (Wanted.free rfl) (V.assign rfl rfl) rfl ?_
 refine RL.nil ?_
 refine SG.seq ?_
 refine SG.region ?_
 refine RL.val (Wanted.free rfl) (V.move rfl rfl) rfl ?_
 refine RL.eff (Wanted.free rfl) (E.call rfl go12 rfl (some_ok (most := 70) hn (by omega) (by unfold Tab; repeat (first | exact List.Mem.head _ | assumption | apply List.Mem.tail)))) rfl ?_
 rintro _ _ ⟨k, a13, c13, hk, rfl, rfl⟩
 refine RL.val (Wanted.free rfl) (V.assign rfl rfl) rfl ?_
 refine RL.nil ?_
 refine SG.seq ?_
 refine SG.region ?_
 refine RL.val (Wanted.free rfl) (V.move rfl rfl) rfl ?_
 refine RL.val (Wanted.free rfl) (V.move rfl rfl) rfl ?_
 refine RL.eff (Wanted.free rfl) (E.call rfl go16 rfl (around_ok _ _ hn2.1 hn2.2 (by omega))) rfl ?_
 rintro _ _ ⟨rfl, rfl⟩
 rw [hq]
 refine RL.eff (Wanted.free rfl) (E.litN (xs := [.tmp 14, .tmp 16]) rfl rfl rfl el30.slice ze3 rfl (by decide) (by decide) rfl (by simp [Value.cells])) rfl ?_
 rintro _ _ ⟨b17, rfl, rfl⟩
 have hall : ∀ w ∈ ([n2, (q : Int)] : List Int), inInt w := by
  intro w hw
  simp only [List.mem_cons, List.not_mem_nil, or_false] at hw
  rcases hw with rfl | rfl
  ·
   exact hn2
  ·
   unfold inInt; omega
 refine RL.ent (Buf.of_els (T := RI) (b := b17) (e := 3) (m := 2) (l := [n2, (q : Int)]) Pick.here rfl rfl (by decide) (fun _ _ _ => rows_sc.2 ⟨rfl, hall⟩)) ?_
 refine RL.publish (T := RI) (a := some ⟨b17, 0, none⟩) Pick.here ?_
 refine RL.val (Wanted.free rfl) (V.assign rfl rfl) rfl ?_
 refine RL.nil ?_
 refine SG.seq ?_
 refine SG.seq ?_
 refine SG.region ?_
 refine RL.val (Wanted.free rfl) (V.assign rfl rfl) rfl ?_
 refine RL.nil ?_
 refine SG.block ?_
 refine SG.weaken (SG.loop2 (fun m0 al M => ∃ i : Nat, i ≤ 2 ∧ m0 = 3 - i ∧ al = [(5, .slice a13 (someV k).length c13), (6, .slice (some ⟨b17, 0, none⟩) 2 2), (7, vI i)] ∧ M = Sl RI (some ⟨b17, 0, none⟩) 2 2 [n2, (q : Int)] :: Sl (RArr8 32) a13 (someV k).length c13 (someV k) :: L) (m0 := _) ⟨0, by omega, rfl, rfl, rfl⟩ ?_) ?_ ?_
 rotate_left
 ·
  repeat (first | exact EnvLe.nil _ | refine EnvLe.cons rfl ?_)
 ·
  exact entX
 rintro _ _ _ ⟨i, hi2, rfl, rfl, rfl⟩ ih0
 refine SG.seq ?_
 refine SG.seq ?_
 refine SG.region ?_
 refine RL.val (Wanted.free rfl) (V.move rfl rfl) rfl ?_
 refine RL.cmp (Wanted.free rfl) (V.bin rfl rfl rfl B.lss) rfl (fun h12 => ?_) (fun h12 => ?_)
 ·
  refine RL.nil ?_
  refine SG.cond_true rfl ?_
  refine SG.skip ?_
  refine SG.seq ?_
  refine SG.block ?_
  refine SG.seq ?_
  obtain ⟨y, hy⟩ : ∃ y, ([n2, (q : Int)] : List Int)[i]? = some y := ⟨_, List.getElem?_eq_getElem (by show _ < 2; omega)⟩
  have hyi := hall y (List.mem_of_getElem? hy)
  refine SG.region ?_
  refine RL.val (Wanted.free rfl) (V.move rfl rfl) rfl ?_
  refine RL.val (Wanted.free rfl) (V.move rfl rfl) rfl ?_
  refine RL.val (Wanted.free rfl) (V.move rfl rfl) rfl ?_
  refine RL.val (Wanted.free rfl) (V.indexSl (j := i) rfl el30.slice rfl rfl memX (by first | rfl | omega) (by show _ < 2; omega)) rfl ?_
  refine RL.val (Wanted.free rfl) (V.loadSc (y := y) (j := i) rfl on3 rfl memX hy) rfl ?_
  refine RL.eff (Wanted.free rfl) (E.call rfl go17 rfl (path_ok (l := someV k) memX (by unfold Tab; repeat (first | exact List.Mem.head _ | assumption | apply List.Mem.tail)) (by rw [some_len]; omega) hyi)) rfl ?_
  rintro _ _ ⟨a28, c28, rfl, rfl⟩
  refine RL.val (Wanted.free rfl) (V.move rfl rfl) rfl ?_
  refine RL.val (Wanted.free rfl) (V.extract rfl rfl rfl) rfl ?_
  refine RL.val (Wanted.free rfl) (V.extract rfl rfl rfl) rfl ?_
  refine RL.val (Wanted.free rfl) (V.assign rfl rfl) rfl ?_
  refine RL.val (Wanted.free rfl) (V.assign rfl rfl) rfl ?_
  refine RL.nil ?_
  refine SG.seq ?_
  refine SG.region ?_
  refine RL.val (Wanted.free rfl) (V.move rfl rfl) rfl ?_
  refine RL.val (Wanted.free rfl) (V.move rfl rfl) rfl ?_
  refine RL.val (Wanted.free rfl) (V.move rfl rfl) rfl ?_
  refine RL.val (Wanted.free rfl) (V.indexSl (j := i) rfl el30.slice rfl rfl memX (by first | rfl | omega) (by show _ < 2; omega)) rfl ?_
  refine RL.val (Wanted.free rfl) (V.loadSc (y := y) (j := i) rfl on3 rfl memX hy) rfl ?_
  refine RL.eff (Wanted.free rfl) (E.call rfl go18 rfl (rPath_ok (l := someV k) memX (by unfold Tab; repeat (first | exact List.Mem.head _ | assumption | apply List.Mem.tail)) (by rw [some_len]; omega) hyi)) rfl ?_
  rintro _ _ ⟨a37, c37, rfl, rfl⟩
  refine RL.val (Wanted.free rfl) (V.move rfl rfl) rfl ?_
  refine RL.val (Wanted.free rfl) (V.extract rfl rfl rfl) rfl ?_
  refine RL.val (Wanted.free rfl) (V.extract rfl rfl rfl) rfl ?_
  refine RL.val (Wanted.free rfl) (V.assign rfl rfl) rfl ?_
  refine RL.val (Wanted.free rfl) (V.assign rfl rfl) rfl ?_
  refine RL.nil ?_
  refine SG.seq ?_
  refine SG.region ?_
  refine RL.val (Wanted.free rfl) (V.move rfl rfl) rfl ?_
  refine RL.val (Wanted.free rfl) (V.move rfl rfl) rfl ?_
  refine RL.cmpF (Wanted.free rfl) (V.bin rfl rfl rfl B.neq) rfl (by simp) ?_
  refine RL.val (Wanted.free rfl) (V.move rfl rfl) rfl ?_
  refine RL.val (Wanted.yes rfl rfl rfl rfl) (V.move rfl rfl) rfl ?_
  refine RL.val (Wanted.yes rfl rfl rfl rfl) (V.move rfl rfl) rfl ?_
  refine RL.eff (Wanted.yes rfl rfl rfl rfl) (E.call rfl go19 rfl (sameT_ok (l := pathL (someV k) y) memX memX)) rfl ?_
  rintro _ _ ⟨rfl, rfl⟩
  refine RL.val (Wanted.yes rfl rfl rfl rfl) (V.not rfl rfl) rfl ?_
  refine RL.val (Wanted.free rfl) (V.pick_false rfl rfl rfl) rfl ?_
  refine RL.nil ?_
  refine SG.cond_false rfl ?_
  refine SG.skip ?_
  refine SG.inBlock ?_
  refine SG.region ?_
  refine RL.val (Wanted.free rfl) (V.move rfl rfl) rfl ?_
  refine RL.val (Wanted.free rfl) (V.bin rfl rfl rfl (B.addI (by omega) (by omega))) rfl ?_
  refine RL.val (Wanted.free rfl) (V.assign rfl rfl) rfl ?_
  refine RL.nil ?_
  refine SG.weaken (ih0 _ _ _ ?_ ⟨i + 1, by omega, rfl, rfl, rfl⟩) ?_ ?_
  ·
   omega
  ·
   repeat (first | exact EnvLe.nil _ | refine EnvLe.cons rfl ?_)
  ·
   exact entX
 ·
  refine RL.nil ?_
  refine SG.cond_false rfl ?_
  refine SG.exit rfl ?_
  refine SG.seq ?_
  refine SG.region ?_
  refine RL.eff (Wanted.free rfl) (E.call rfl go15 rfl (lives_ok (by unfold Tab; repeat (first | exact List.Mem.head _ | assumption | apply List.Mem.tail)))) rfl ?_
  rintro _ _ ⟨rfl, rfl⟩
  refine RL.val (Wanted.free rfl) (V.assign rfl rfl) rfl ?_
  refine RL.nil ?_
  refine SG.retE (Ret.r1 Tryd.func4 rfl (.tmp rfl)) ?_ ⟨rfl, rfl⟩
  exact entX

set_option maxRecDepth 100000 in
set_option maxHeartbeats 1000000 in
theorem growths_law {κ : World} {L : List Assn} {n n2 : Int} (hn : inInt n) (hn2 : inInt n2) (hT : Tab L) :
    Ctr Tryd.prog 5 #[vI n, vI n2] κ L (fun v M => v = vB true ∧ M = L) := by
 refine Ctr.enter (vs := [vI n, vI n2]) (m := 50) Tryd.func5 rfl rfl rfl ?_
 unfold Tab at hT
 obtain ⟨q, hq, hq2⟩ := aroundV_nat (n := n2) (most := 72) (by omega)
 refine SG.seq ?_
 refine SG.region ?_
 refine RL.val (Wanted.free rfl) (V.assign rfl rfl) rfl ?_
 refine RL.nil ?_
 refine SG.seq ?_
 refine SG.region ?_
 refine RL.val (Wanted.free rfl) (V.move rfl rfl) rfl ?_
 refine RL.eff (Wanted.free rfl) (E.call rfl go12 rfl (some_ok (most := 70) hn (by omega) (by unfold Tab; repeat (first | exact List.Mem.head _ | assumption | apply List.Mem.tail)))) rfl ?_
 rintro _ _ ⟨k, a13, c13, hk, rfl, rfl⟩
 refine RL.val (Wanted.free rfl) (V.assign rfl rfl) rfl ?_
 refine RL.nil ?_
 refine SG.seq ?_
 refine SG.region ?_
 refine RL.val (Wanted.free rfl) (V.move rfl rfl) rfl ?_
 refine RL.val (Wanted.free rfl) (V.move rfl rfl) rfl ?_
 refine RL.eff (Wanted.free rfl) (E.call rfl go16 rfl (around_ok _ _ hn2.1 hn2.2 (by omega))) rfl ?_
 rintro _ _ ⟨rfl, rfl⟩
 rw [hq]
 refine RL.eff (Wanted.free rfl) (E.litN (xs := [.tmp 14, .tmp 16]) rfl rfl rfl el30.slice ze3 rfl (by decide) (by decide) rfl (by simp [Value.cells])) rfl ?_
 rintro _ _ ⟨b17, rfl, rfl⟩
 have hall : ∀ w ∈ ([n2, (q : Int)] : List Int), inInt w := by
  intro w hw
  simp only [List.mem_cons, List.not_mem_nil, or_false] at hw
  rcases hw with rfl | rfl
  ·
   exact hn2
  ·
   unfold inInt; omega
 refine RL.ent (Buf.of_els (T := RI) (b := b17) (e := 3) (m := 2) (l := [n2, (q : Int)]) Pick.here rfl rfl (by decide) (fun _ _ _ => rows_sc.2 ⟨rfl, hall⟩)) ?_
 refine RL.publish (T := RI) (a := some ⟨b17, 0, none⟩) Pick.here ?_
 refine RL.val (Wanted.free rfl) (V.assign rfl rfl) rfl ?_
 refine RL.nil ?_
 refine SG.seq ?_
 refine SG.seq ?_
 refine SG.region ?_
 refine RL.val (Wanted.free rfl) (V.assign rfl rfl) rfl ?_
 refine RL.nil ?_
 refine SG.block ?_
 refine SG.weaken (SG.loop2 (fun m0 al M => ∃ i : Nat, i ≤ 2 ∧ m0 = 3 - i ∧ al = [(5, .slice a13 (someV k).length c13), (6, .slice (some ⟨b17, 0, none⟩) 2 2), (7, vI i)] ∧ M = Sl RI (some ⟨b17, 0, none⟩) 2 2 [n2, (q : Int)] :: Sl (RArr8 32) a13 (someV k).length c13 (someV k) :: L) (m0 := _) ⟨0, by omega, rfl, rfl, rfl⟩ ?_) ?_ ?_
 rotate_left
 ·
  repeat (first | exact EnvLe.nil _ | refine EnvLe.cons rfl ?_)
 ·
  exact entX
 rintro _ _ _ ⟨i, hi2, rfl, rfl, rfl⟩ ih0
 refine SG.seq ?_
 refine SG.seq ?_
 refine SG.region ?_
 refine RL.val (Wanted.free rfl) (V.move rfl rfl) rfl ?_
 refine RL.cmp (Wanted.free rfl) (V.bin rfl rfl rfl B.lss) rfl (fun h12 => ?_) (fun h12 => ?_)
 ·
  refine RL.nil ?_
  refine SG.cond_true rfl ?_
  refine SG.skip ?_
  refine SG.seq ?_
  refine SG.block ?_
  refine SG.seq ?_
  obtain ⟨y, hy⟩ : ∃ y, ([n2, (q : Int)] : List Int)[i]? = some y := ⟨_, List.getElem?_eq_getElem (by show _ < 2; omega)⟩
  have hyi := hall y (List.mem_of_getElem? hy)
  refine SG.region ?_
  refine RL.val (Wanted.free rfl) (V.move rfl rfl) rfl ?_
  refine RL.val (Wanted.free rfl) (V.move rfl rfl) rfl ?_
  refine RL.val (Wanted.free rfl) (V.move rfl rfl) rfl ?_
  refine RL.val (Wanted.free rfl) (V.indexSl (j := i) rfl el30.slice rfl rfl memX (by first | rfl | omega) (by show _ < 2; omega)) rfl ?_
  refine RL.val (Wanted.free rfl) (V.loadSc (y := y) (j := i) rfl on3 rfl memX hy) rfl ?_
  refine RL.eff (Wanted.free rfl) (E.call rfl go20 rfl (growth_ok (l := someV k) memX (by unfold Tab; repeat (first | exact List.Mem.head _ | assumption | apply List.Mem.tail)) (by rw [some_len]; omega) hyi)) rfl ?_
  rintro _ _ ⟨a28, c28, rfl, rfl⟩
  refine RL.val (Wanted.free rfl) (V.move rfl rfl) rfl ?_
  refine RL.val (Wanted.free rfl) (V.extract rfl rfl rfl) rfl ?_
  refine RL.val (Wanted.free rfl) (V.extract rfl rfl rfl) rfl ?_
  refine RL.val (Wanted.free rfl) (V.assign rfl rfl) rfl ?_
  refine RL.val (Wanted.free rfl) (V.assign rfl rfl) rfl ?_
  refine RL.nil ?_
  refine SG.seq ?_
  refine SG.region ?_
  refine RL.val (Wanted.free rfl) (V.move rfl rfl) rfl ?_
  refine RL.val (Wanted.free rfl) (V.move rfl rfl) rfl ?_
  refine RL.val (Wanted.free rfl) (V.move rfl rfl) rfl ?_
  refine RL.val (Wanted.free rfl) (V.indexSl (j := i) rfl el30.slice rfl rfl memX (by first | rfl | omega) (by show _ < 2; omega)) rfl ?_
  refine RL.val (Wanted.free rfl) (V.loadSc (y := y) (j := i) rfl on3 rfl memX hy) rfl ?_
  refine RL.eff (Wanted.free rfl) (E.call rfl go21 rfl (rGrowth_ok (l := someV k) memX (by unfold Tab; repeat (first | exact List.Mem.head _ | assumption | apply List.Mem.tail)) (by rw [some_len]; omega) hyi)) rfl ?_
  rintro _ _ ⟨a37, c37, rfl, rfl⟩
  refine RL.val (Wanted.free rfl) (V.move rfl rfl) rfl ?_
  refine RL.val (Wanted.free rfl) (V.extract rfl rfl rfl) rfl ?_
  refine RL.val (Wanted.free rfl) (V.extract rfl rfl rfl) rfl ?_
  refine RL.val (Wanted.free rfl) (V.assign rfl rfl) rfl ?_
  refine RL.val (Wanted.free rfl) (V.assign rfl rfl) rfl ?_
  refine RL.nil ?_
  refine SG.seq ?_
  refine SG.region ?_
  refine RL.val (Wanted.free rfl) (V.move rfl rfl) rfl ?_
  refine RL.val (Wanted.free rfl) (V.move rfl rfl) rfl ?_
  refine RL.cmpF (Wanted.free rfl) (V.bin rfl rfl rfl B.neq) rfl (by simp) ?_
  refine RL.val (Wanted.free rfl) (V.move rfl rfl) rfl ?_
  refine RL.val (Wanted.yes rfl rfl rfl rfl) (V.move rfl rfl) rfl ?_
  refine RL.val (Wanted.yes rfl rfl rfl rfl) (V.move rfl rfl) rfl ?_
  refine RL.eff (Wanted.yes rfl rfl rfl rfl) (E.call rfl go19 rfl (sameT_ok (l := growL (someV k) y) memX memX)) rfl ?_
  rintro _ _ ⟨rfl, rfl⟩
  refine RL.val (Wanted.yes rfl rfl rfl rfl) (V.not rfl rfl) rfl ?_
  refine RL.val (Wanted.free rfl) (V.pick_false rfl rfl rfl) rfl ?_
  refine RL.nil ?_
  refine SG.cond_false rfl ?_
  refine SG.skip ?_
  refine SG.inBlock ?_
  refine SG.region ?_
  refine RL.val (Wanted.free rfl) (V.move rfl rfl) rfl ?_
  refine RL.val (Wanted.free rfl) (V.bin rfl rfl rfl (B.addI (by omega) (by omega))) rfl ?_
  refine RL.val (Wanted.free rfl) (V.assign rfl rfl) rfl ?_
  refine RL.nil ?_
  refine SG.weaken (ih0 _ _ _ ?_ ⟨i + 1, by omega, rfl, rfl, rfl⟩) ?_ ?_
  ·
   omega
  ·
   repeat (first | exact EnvLe.nil _ | refine EnvLe.cons rfl ?_)
  ·
   exact entX
 ·
  refine RL.nil ?_
  refine SG.cond_false rfl ?_
  refine SG.exit rfl ?_
  refine SG.seq ?_
  refine SG.region ?_
  refine RL.eff (Wanted.free rfl) (E.call rfl go15 rfl (lives_ok (by unfold Tab; repeat (first | exact List.Mem.head _ | assumption | apply List.Mem.tail)))) rfl ?_
  rintro _ _ ⟨rfl, rfl⟩
  refine RL.val (Wanted.free rfl) (V.assign rfl rfl) rfl ?_
  refine RL.nil ?_
  refine SG.retE (Ret.r1 Tryd.func5 rfl (.tmp rfl)) ?_ ⟨rfl, rfl⟩
  exact entX

end Go.Proofs.YtcbloadpffjkiaaDoor
