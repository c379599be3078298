/- The reference's leaves. -/
import Derived.Test.YtcbloadpffjkiaaDoorNode
import Derived.Test.YtcbloadpffjkiaaDoorRsum
namespace Go.Proofs.YtcbloadpffjkiaaDoor
open Go.Wk Go.Sha

set_option maxRecDepth 100000 in
theorem rleaf_ok {κ : World} {L : List Assn} {a : Option Addr} {n c : Nat} {l : List UInt8} (hm : Sl R8 a n c l ∈ L) (hb : l.length ≤ 140737488355000) :
    Ctr Tryd.prog 44 #[.slice a n c] κ L (fun v M => v = .agg ((leaf l).map v8).toArray ∧ M = L) := by
 refine Ctr.enter (vs := [.slice a n c]) (m := 7) Tryd.func44 rfl rfl rfl ?_
 refine SG.sl hm fun hn hc hc63 => ?_
 subst hn
 refine SG.seq ?_
 refine SG.region ?_
 refine RL.eff (Wanted.free rfl) (E.alloc rfl ze25) rfl ?_
 rintro _ _ ⟨b2, rfl, rfl⟩
 refine RL.nil ?_
 refine SG.seq ?_
 refine SG.region ?_
 refine RL.eff (Wanted.free rfl) (E.lit1 [.int .u8 0] rfl el62.slice ze5 rfl (by decide) (by decide) rfl rfl rfl) rfl ?_
 rintro _ _ ⟨b3, rfl, rfl⟩
 refine RL.ent (Buf.lit1' (T := R8) (b := b3) (e := 5) (y := 0) Pick.here rfl (fun _ => ⟨rfl, trivial⟩)) ?_
 refine RL.val (Wanted.free rfl) (V.move rfl rfl) rfl ?_
 refine RL.eff (Wanted.free rfl) (E.append (T := R8) rfl rfl rfl el62 el62.noInt rfl rfl pickX (Src.sl (by decide) memX) (by first | omega | (simp; omega)) (by first | omega | (simp; omega))) rfl ?_
 intro _ _ hK4
 try rw [List.nil_append] at hK4
 try rw [Nat.zero_add] at hK4
 obtain ⟨a5, c5, rfl, rfl⟩ := hK4
 refine RL.publish (T := R8) (a := a5) Pick.here ?_
 refine RL.eff (Wanted.free rfl) (E.call rfl go48 rfl (rsum_ok (l := 0 :: l) memX (by simp; omega))) rfl ?_
 rintro _ _ ⟨rfl, rfl⟩
 refine RL.eff (Wanted.free rfl) (E.storeWhole rfl rfl rfl (by rw [List.length_map]; exact sum_length _) sz25 pickX (one8 _) (by rw [List.length_replicate])) rfl ?_
 rintro _ _ rfl
 refine RL.nil ?_
 refine SG.retE (Ret.r1 Tryd.func44 rfl (.agg rfl ag25 pickX (take8 (sum_length _)) (by rw [List.length_map]; exact sum_length _))) ?_ ⟨rfl, rfl⟩
 exact entX

set_option maxRecDepth 100000 in
theorem rnode_ok {κ : World} {L : List Assn} {x y : List UInt8} (hx : x.length = 32) (hy : y.length = 32) :
    Ctr Tryd.prog 50 #[.agg (x.map v8).toArray, .agg (y.map v8).toArray] κ L (fun v M => v = .agg ((node x y).map v8).toArray ∧ M = L) := by
 refine Ctr.enter (vs := [.agg (x.map v8).toArray, .agg (y.map v8).toArray]) (m := 14) Tryd.func50 rfl rfl rfl ?_
 refine SG.seq ?_
 refine SG.region ?_
 refine RL.eff (Wanted.free rfl) (E.box _ rfl rfl rfl) rfl ?_
 rintro _ _ ⟨b2, rfl, rfl⟩
 refine RL.eff (Wanted.free rfl) (E.box _ rfl rfl rfl) rfl ?_
 rintro _ _ ⟨b3, rfl, rfl⟩
 refine RL.eff (Wanted.free rfl) (E.alloc rfl ze25) rfl ?_
 rintro _ _ ⟨b4, rfl, rfl⟩
 refine RL.nil ?_
 refine SG.seq ?_
 refine SG.region ?_
 refine RL.eff (Wanted.free rfl) (E.lit1 [.int .u8 1] rfl el62.slice ze5 rfl (by decide) (by decide) rfl rfl rfl) rfl ?_
 rintro _ _ ⟨b6, rfl, rfl⟩
 refine RL.ent (Buf.lit1' (T := R8) (b := b6) (e := 5) (y := 1) Pick.here rfl (fun _ => ⟨rfl, trivial⟩)) ?_
 refine RL.val (Wanted.free rfl) (V.assign rfl rfl) rfl ?_
 refine RL.nil ?_
 refine SG.seq ?_
 refine SG.region ?_
 refine RL.val (Wanted.free rfl) (V.move rfl rfl) rfl ?_
 refine RL.val (Wanted.free rfl) (V.sliceArr rfl ar25 rfl rfl rfl rfl (by omega) (by omega)) rfl ?_
 refine RL.eff (Wanted.free rfl) (E.append (T := R8) rfl rfl rfl el62 el62.noInt rfl rfl pickX (Src.blk8 hx pickX) (by first | omega | (simp; omega)) (by first | omega | (simp; omega))) rfl ?_
 intro _ _ hK8
 try rw [List.nil_append] at hK8
 try rw [Nat.zero_add] at hK8
 rw [hx] at hK8
 obtain ⟨a9, c9, rfl, rfl⟩ := hK8
 refine RL.val (Wanted.free rfl) (V.assign rfl rfl) rfl ?_
 refine RL.nil ?_
 refine SG.seq ?_
 refine SG.region ?_
 refine RL.val (Wanted.free rfl) (V.move rfl rfl) rfl ?_
 refine RL.val (Wanted.free rfl) (V.sliceArr rfl ar25 rfl rfl rfl rfl (by omega) (by omega)) rfl ?_
 refine RL.eff (Wanted.free rfl) (E.append (T := R8) rfl rfl rfl el62 el62.noInt rfl rfl pickX (Src.blk8 hy pickX) (by first | omega | (simp; omega)) (by first | omega | (simp; omega))) rfl ?_
 intro _ _ hK12
 try rw [List.nil_append] at hK12
 try rw [Nat.zero_add] at hK12
 rw [hy] at hK12
 obtain ⟨a12, c12, rfl, rfl⟩ := hK12
 refine RL.publish (T := R8) (a := a12) Pick.here ?_
 refine RL.eff (Wanted.free rfl) (E.call rfl go48 rfl (rsum_ok (l := 1 :: x ++ y) memX (by simp [hx, hy]))) rfl ?_
 rintro _ _ ⟨rfl, rfl⟩
 refine RL.eff (Wanted.free rfl) (E.storeWhole rfl rfl rfl (by rw [List.length_map]; exact sum_length _) sz25 pickX (one8 _) (by rw [List.length_replicate])) rfl ?_
 rintro _ _ rfl
 refine RL.nil ?_
 refine SG.retE (Ret.r1 Tryd.func50 rfl (.agg rfl ag25 pickX (take8 (sum_length _)) (by rw [List.length_map]; exact sum_length _))) ?_ ⟨rfl, rfl⟩
 exact entX

end Go.Proofs.YtcbloadpffjkiaaDoor
