/- The examples. -/
import Derived.Test.YtbljfilkdhgcnaaDoorNode
import Derived.Test.YtbljfilkdhgcnaaDoorParse
namespace Go.Proofs.YtbljfilkdhgcnaaDoor
open Go.Wk Go.Sha

set_option maxRecDepth 100000 in
theorem lives_ok {κ : World} {L : List Assn} (hT : Tab L) :
    Ctr Tryd.prog 14 #[] κ L (fun v M => v = vB true ∧ M = L) := by
  refine Ctr.enter (vs := []) (m := 43) Tryd.func14 rfl rfl rfl ?_
  unfold Tab at hT
  refine SG.ent (Sl.nil (T := R8)) ?_
  refine SG.seq ?_
  refine SG.region ?_
  refine RL.val (Wanted.free rfl) (V.assign rfl rfl) rfl ?_
  refine RL.nil ?_
  refine SG.seq ?_
  refine SG.region ?_
  refine RL.eff (Wanted.free rfl) (E.call rfl go12 rfl (sum_ok (l := []) (by repeat (first | exact List.Mem.head _ | assumption | apply List.Mem.tail)) (by unfold Tab; repeat (first | exact List.Mem.head _ | assumption | apply List.Mem.tail)) (by decide))) rfl ?_
  rintro _ _ ⟨rfl, rfl⟩
  refine RL.eff (Wanted.free rfl) (E.call rfl go29 rfl (hex_ok (sum_length _))) rfl ?_
  rintro _ _ ⟨rfl, rfl⟩
  refine RL.cmpT (Wanted.free rfl) (V.bin rfl rfl rfl B.eqlS) rfl (by kernel_rfl) ?_
  refine RL.val (Wanted.free rfl) (V.assign rfl rfl) rfl ?_
  refine RL.nil ?_
  refine SG.seq ?_
  refine SG.region ?_
  refine RL.eff (Wanted.free rfl) (E.litN (xs := [.const (.int .u8 (97)), .const (.int .u8 (98)), .const (.int .u8 (99))]) rfl rfl rfl el22.slice ze5 rfl (by decide) (by decide) rfl (by simp [Value.cells])) rfl ?_
  rintro _ _ ⟨b10, rfl, rfl⟩
  refine RL.eff (Wanted.free rfl) (E.convLit (b := b10) (s := [97, 98, 99]) rfl el22.under ui5 rfl Pick.here rfl rfl (by decide)) rfl ?_
  rintro _ _ ⟨rfl, rfl⟩
  refine RL.publish (T := R8) Pick.here ?_
  refine RL.eff (Wanted.free rfl) (E.call rfl go12 rfl (sum_ok (l := [97, 98, 99]) (by repeat (first | exact List.Mem.head _ | assumption | apply List.Mem.tail)) (by unfold Tab; repeat (first | exact List.Mem.head _ | assumption | apply List.Mem.tail)) (by decide))) rfl ?_
  rintro _ _ ⟨rfl, rfl⟩
  refine RL.eff (Wanted.free rfl) (E.call rfl go29 rfl (hex_ok (sum_length _))) rfl ?_
  rintro _ _ ⟨rfl, rfl⟩
  refine RL.cmpT (Wanted.free rfl) (V.bin rfl rfl rfl B.eqlS) rfl (by kernel_rfl) ?_
  refine RL.val (Wanted.free rfl) (V.assign rfl rfl) rfl ?_
  refine RL.nil ?_
  refine SG.seq ?_
  refine SG.region ?_
  refine RL.eff (Wanted.free rfl) (E.litN (xs := [.const (.int .u8 (97)), .const (.int .u8 (98)), .const (.int .u8 (99))]) rfl rfl rfl el22.slice ze5 rfl (by decide) (by decide) rfl (by simp [Value.cells])) rfl ?_
  rintro _ _ ⟨b15, rfl, rfl⟩
  refine RL.eff (Wanted.free rfl) (E.convLit (b := b15) (s := [97, 98, 99]) rfl el22.under ui5 rfl Pick.here rfl rfl (by decide)) rfl ?_
  rintro _ _ ⟨rfl, rfl⟩
  refine RL.publish (T := R8) Pick.here ?_
  refine RL.eff (Wanted.free rfl) (E.call rfl go25 rfl (leaf_ok (l := [97, 98, 99]) (by repeat (first | exact List.Mem.head _ | assumption | apply List.Mem.tail)) (by unfold Tab; repeat (first | exact List.Mem.head _ | assumption | apply List.Mem.tail)) (by decide))) rfl ?_
  rintro _ _ ⟨rfl, rfl⟩
  refine RL.eff (Wanted.free rfl) (E.call rfl go29 rfl (hex_ok (sum_length _))) rfl ?_
  rintro _ _ ⟨rfl, rfl⟩
  refine RL.cmpT (Wanted.free rfl) (V.bin rfl rfl rfl B.eqlS) rfl (by kernel_rfl) ?_
  refine RL.val (Wanted.free rfl) (V.assign rfl rfl) rfl ?_
  refine RL.nil ?_
  refine SG.seq ?_
  refine SG.region ?_
  refine RL.val (Wanted.free rfl) (V.buildA (cs := (List.replicate 32 (0 : UInt8)).map v8) [] rfl ba24 (by exact trivial) (by rw [← z32]; rfl)) rfl ?_
  refine RL.val (Wanted.free rfl) (V.buildA (cs := (List.replicate 32 (0 : UInt8)).map v8) [] rfl ba24 (by exact trivial) (by rw [← z32]; rfl)) rfl ?_
  refine RL.eff (Wanted.free rfl) (E.call rfl go27 rfl (node_ok (x := List.replicate 32 0) (y := List.replicate 32 0) List.length_replicate List.length_replicate (by unfold Tab; repeat (first | exact List.Mem.head _ | assumption | apply List.Mem.tail)))) rfl ?_
  rintro _ _ ⟨rfl, rfl⟩
  refine RL.eff (Wanted.free rfl) (E.call rfl go29 rfl (hex_ok (sum_length _))) rfl ?_
  rintro _ _ ⟨rfl, rfl⟩
  refine RL.cmpT (Wanted.free rfl) (V.bin rfl rfl rfl B.eqlS) rfl (by kernel_rfl) ?_
  refine RL.val (Wanted.free rfl) (V.assign rfl rfl) rfl ?_
  refine RL.nil ?_
  refine SG.seq ?_
  refine SG.region ?_
  refine RL.eff (Wanted.free rfl) (E.call rfl go30 rfl (parse_ok (s := [65, 66, 67, 68, 69, 70]))) rfl ?_
  rintro _ _ ⟨rfl, rfl⟩
  refine RL.val (Wanted.free rfl) (V.move rfl rfl) rfl ?_
  refine RL.val (Wanted.free rfl) (V.extract rfl rfl rfl) rfl ?_
  refine RL.val (Wanted.free rfl) (V.extract rfl rfl rfl) rfl ?_
  refine RL.eff (Wanted.free rfl) (E.alloc rfl ze24) rfl ?_
  rintro _ _ ⟨b5, rfl, rfl⟩
  refine RL.eff (Wanted.free rfl) (E.storeWhole rfl rfl rfl (by rw [List.length_map]; exact parse_length _) sz24 (by repeat (first | exact Pick.here | assumption | apply Pick.there)) (one8 _) (by rw [List.length_replicate])) rfl ?_
  rintro _ _ rfl
  refine RL.val (Wanted.free rfl) (V.assign rfl rfl) rfl ?_
  refine RL.nil ?_
  refine SG.seq ?_
  refine SG.region ?_
  refine RL.val (Wanted.free rfl) (V.move rfl rfl) rfl ?_
  refine RL.val (Wanted.free rfl) (V.move rfl rfl) rfl ?_
  refine RL.val (Wanted.yes rfl rfl rfl rfl) (V.move rfl rfl) rfl ?_
  refine RL.val (Wanted.free rfl) (V.pick_true rfl rfl rfl) rfl ?_
  refine RL.val (Wanted.free rfl) (V.move rfl rfl) rfl ?_
  refine RL.val (Wanted.yes rfl rfl rfl rfl) (V.move rfl rfl) rfl ?_
  refine RL.val (Wanted.free rfl) (V.pick_true rfl rfl rfl) rfl ?_
  refine RL.val (Wanted.free rfl) (V.move rfl rfl) rfl ?_
  refine RL.val (Wanted.yes rfl rfl rfl rfl) (V.move rfl rfl) rfl ?_
  refine RL.val (Wanted.free rfl) (V.pick_true rfl rfl rfl) rfl ?_
  refine RL.val (Wanted.free rfl) (V.move rfl rfl) rfl ?_
  refine RL.val (Wanted.yes rfl rfl rfl rfl) (V.move rfl rfl) rfl ?_
  refine RL.cmpT (Wanted.yes rfl rfl rfl rfl) (V.bin rfl rfl rfl B.eql) rfl (by kernel_rfl) ?_
  refine RL.val (Wanted.free rfl) (V.pick_true rfl rfl rfl) rfl ?_
  refine RL.val (Wanted.free rfl) (V.assign rfl rfl) rfl ?_
  refine RL.nil ?_
  refine SG.retE (Ret.r1 Tryd.func14 rfl (.tmp rfl)) ?_ ⟨rfl, rfl⟩
  repeat (first | exact Ent.refl _ | (apply Ent.cons; (· repeat (first | exact Pick.here | (refine Pick.sl ?_; (· repeat (first | exact List.Mem.head _ | assumption | apply List.Mem.tail))) | apply Pick.there))) | (refine Ent.trans (Ent.drop _ _) ?_))

end Go.Proofs.YtbljfilkdhgcnaaDoor
