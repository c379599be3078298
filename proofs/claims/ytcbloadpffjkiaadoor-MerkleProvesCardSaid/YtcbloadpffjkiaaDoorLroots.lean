/- The law MerkleRoots. -/
import Derived.Test.YtcbloadpffjkiaaDoorMlives
import Derived.Test.YtcbloadpffjkiaaDoorMfront
namespace Go.Proofs.YtcbloadpffjkiaaDoor
open Go.Wk Go.Mk Go.Sha

theorem some32 {k : Nat} : ∀ x ∈ someV k, x.length = 32 := fun x hx => by
  obtain ⟨i, _, rfl⟩ := List.mem_map.1 hx
  exact leaf_length _
set_option maxRecDepth 100000 in
set_option maxHeartbeats 1000000 in
theorem roots_law {κ : World} {L : List Assn} {a : Option Addr} {m c : Nat} {l : List Hs} {n : Int} (hm : Sl (RArr8 32) a m c l ∈ L) (hn : inInt n) (hT : Tab L) :
    Ctr Tryd.prog 3 #[.slice a m c, vI n] κ L (fun v M => v = vB true ∧ M = L) := by
 refine Ctr.enter (vs := [.slice a m c, vI n]) (m := 29) Tryd.func3 rfl rfl rfl ?_
 unfold Tab at hT
 refine SG.fact (fun w hs => Sep.slArr hs hm) fun h32 => ?_
 refine SG.sl hm fun hlm _ _ => ?_
 refine SG.seq ?_
 refine SG.region ?_
 refine RL.val (Wanted.free rfl) (V.assign rfl rfl) rfl ?_
 refine RL.nil ?_
 refine SG.seq ?_
 refine SG.region ?_
 refine RL.val (Wanted.free rfl) (V.move rfl rfl) rfl ?_
 refine RL.eff (Wanted.free rfl) (E.call rfl go12 rfl (some_ok (most := 70) hn (by omega) (by unfold Tab; repeat (first | exact List.Mem.head _ | assumption | apply List.Mem.tail)))) rfl ?_
 rintro _ _ ⟨k, a8, c8, hk, rfl, rfl⟩
 refine RL.val (Wanted.free rfl) (V.assign rfl rfl) rfl ?_
 refine RL.nil ?_
 refine SG.seq ?_
 refine SG.region ?_
 refine RL.val (Wanted.free rfl) (V.move rfl rfl) rfl ?_
 refine RL.val (Wanted.free rfl) (V.move rfl rfl) rfl ?_
 refine RL.val (Wanted.free rfl) (V.len rfl rfl el22.under rfl) rfl ?_
 refine RL.val (Wanted.free rfl) (V.min rfl rfl rfl rfl) rfl ?_
 refine RL.eff (Wanted.free rfl) (E.slice (l := l) (lo := 0) (hi := min m 100) rfl el22.slice rfl memX rfl ⟨_, _, rfl, (by first | rfl | omega)⟩ (by omega) (by omega)) rfl ?_
 intro _ _ hK9
 try rw [List.drop_zero] at hK9
 iterate 2 (try rw [Nat.sub_zero] at hK9)
 obtain ⟨a13, rfl, rfl⟩ := hK9
 refine RL.val (Wanted.free rfl) (V.assign rfl rfl) rfl ?_
 refine RL.nil ?_
 refine SG.seq ?_
 refine SG.region ?_
 refine RL.val (Wanted.free rfl) (V.move rfl rfl) rfl ?_
 refine RL.eff (Wanted.free rfl) (E.call rfl go13 rfl (root_ok (l := l.take (min m 100)) memX (by unfold Tab; repeat (first | exact List.Mem.head _ | assumption | apply List.Mem.tail)) (by rw [List.length_take]; omega))) rfl ?_
 rintro _ _ ⟨rfl, rfl⟩
 refine RL.val (Wanted.free rfl) (V.move rfl rfl) rfl ?_
 refine RL.eff (Wanted.free rfl) (E.call rfl go14 rfl (rroot_ok (l := l.take (min m 100)) memX (by unfold Tab; repeat (first | exact List.Mem.head _ | assumption | apply List.Mem.tail)) (by rw [List.length_take]; omega))) rfl ?_
 rintro _ _ ⟨rfl, rfl⟩
 refine RL.cmpT (Wanted.free rfl) (V.eqlArr rfl ar25 on5 ui5 ce25 eg25 inj8 (root_len (fun x hx => h32 x (List.mem_of_mem_take hx))) (root_len (fun x hx => h32 x (List.mem_of_mem_take hx))) rfl rfl) rfl rfl ?_
 refine RL.val (Wanted.free rfl) (V.move rfl rfl) rfl ?_
 refine RL.val (Wanted.yes rfl rfl rfl rfl) (V.move rfl rfl) rfl ?_
 refine RL.eff (Wanted.yes rfl rfl rfl rfl) (E.call rfl go13 rfl (root_ok (l := someV k) memX (by unfold Tab; repeat (first | exact List.Mem.head _ | assumption | apply List.Mem.tail)) (by rw [some_len]; omega))) rfl ?_
 rintro _ _ ⟨rfl, rfl⟩
 refine RL.val (Wanted.yes rfl rfl rfl rfl) (V.move rfl rfl) rfl ?_
 refine RL.eff (Wanted.yes rfl rfl rfl rfl) (E.call rfl go14 rfl (rroot_ok (l := someV k) memX (by unfold Tab; repeat (first | exact List.Mem.head _ | assumption | apply List.Mem.tail)) (by rw [some_len]; omega))) rfl ?_
 rintro _ _ ⟨rfl, rfl⟩
 refine RL.cmpT (Wanted.yes rfl rfl rfl rfl) (V.eqlArr rfl ar25 on5 ui5 ce25 eg25 inj8 (root_len some32) (root_len some32) rfl rfl) rfl rfl ?_
 refine RL.val (Wanted.free rfl) (V.pick_true rfl rfl rfl) rfl ?_
 refine RL.val (Wanted.free rfl) (V.move rfl rfl) rfl ?_
 refine RL.eff (Wanted.yes rfl rfl rfl rfl) (E.call rfl go15 rfl (lives_ok (by unfold Tab; repeat (first | exact List.Mem.head _ | assumption | apply List.Mem.tail)))) rfl ?_
 rintro _ _ ⟨rfl, rfl⟩
 refine RL.val (Wanted.free rfl) (V.pick_true rfl rfl rfl) rfl ?_
 refine RL.val (Wanted.free rfl) (V.assign rfl rfl) rfl ?_
 refine RL.nil ?_
 refine SG.retE (Ret.r1 Tryd.func3 rfl (.tmp rfl)) ?_ ⟨rfl, rfl⟩
 exact entX

end Go.Proofs.YtcbloadpffjkiaaDoor
