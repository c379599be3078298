/- The law DigestLengths. -/
import Derived.Test.YtbljfilkdhgcnaaDoorRest1
namespace Go.Proofs.YtbljfilkdhgcnaaDoor
open Go.Wk Go.Sha

set_option maxRecDepth 100000 in
theorem lengths_law {κ : World} {L : List Assn} {n s : Int} (hT : Tab L) (h1 : -9223372036854775808 ≤ n) (h2 : n ≤ 9223372036854775807) :
    Ctr Tryd.prog 4 #[vI n, vI s] κ L (fun v M => v = vB true ∧ M = L) := by
  refine Ctr.enter (vs := [vI n, vI s]) (m := 28) Tryd.func4 rfl rfl rfl ?_
  unfold Tab at hT
  obtain ⟨q, hq, hq2⟩ := aroundV_nat (n := n) (most := 301) (by omega)
  have hB : (bytesV (seedV s) q).length = q := bytesV_length _ _
  refine SG.ent (slX _) ?_
  refine SG.seq ?_
  refine SG.region ?_
  refine RL.val (Wanted.free rfl) (V.assign rfl rfl) rfl ?_
  refine RL.nil ?_
  refine SG.seq ?_
  refine SG.region ?_
  refine RL.val (Wanted.free rfl) (V.move rfl rfl) rfl ?_
  refine RL.eff (Wanted.free rfl) (E.call rfl go16 rfl (around_ok _ _ h1 h2 (by omega))) rfl ?_
  rintro _ _ ⟨rfl, rfl⟩
  rw [hq]
  refine RL.val (Wanted.free rfl) (V.move rfl rfl) rfl ?_
  refine RL.eff (Wanted.free rfl) (E.call rfl go15 rfl (bytes_ok (n := q) (s := s) (by omega))) rfl ?_
  rintro _ _ ⟨a10, c10, rfl, rfl⟩
  refine RL.publish (T := R8) (a := a10) Pick.here ?_
  refine RL.val (Wanted.free rfl) (V.assign rfl rfl) rfl ?_
  refine RL.nil ?_
  refine SG.seq ?_
  refine SG.region ?_
  refine RL.eff (Wanted.free rfl) (E.call rfl go18 rfl (newX_ok)) rfl ?_
  rintro _ _ ⟨rfl, rfl⟩
  refine RL.val (Wanted.free rfl) (V.move rfl rfl) rfl ?_
  refine RL.eff (Wanted.free rfl) (E.call rfl go17 rfl (writeX_ok (X := []) (b := (bytesV (seedV s) q)) (by repeat (first | exact List.Mem.head _ | assumption | apply List.Mem.tail)) (by repeat (first | exact List.Mem.head _ | assumption | apply List.Mem.tail)) (by unfold Tab; repeat (first | exact List.Mem.head _ | assumption | apply List.Mem.tail)) (by first | omega | (simp; done) | (simp; omega)) (by first | omega | (simp; done) | (simp; omega)))) rfl ?_
  rintro _ _ ⟨a13, c13, rfl, rfl⟩
  rw [List.nil_append]
  refine RL.eff (Wanted.free rfl) (E.alloc rfl ze33) rfl ?_
  rintro _ _ ⟨b6, rfl, rfl⟩
  refine RL.eff (Wanted.free rfl) (E.storeWhole rfl rfl rfl (dg_len (feed_length _ _ first_length)) sz33 (by repeat (first | exact Pick.here | assumption | apply Pick.there)) (dg_one rfl rfl) (by first | rfl | (rw [dg_len (feed_length _ _ first_length)]))) rfl ?_
  rintro _ _ rfl
  refine RL.nil ?_
  refine SG.seq ?_
  refine SG.drawL 15 15 wide rfl rfl ?_
  refine RH.val 0 rfl (by kernel_rfl) (by kernel_rfl) (by kernel_rfl) (by kernel_rfl) (Wanted.free rfl) (V.move rfl rfl) rfl ?_
  refine RH.val 2 rfl (by kernel_rfl) (by kernel_rfl) (by kernel_rfl) (by kernel_rfl) (Wanted.free rfl) (V.move rfl rfl) rfl ?_
  refine RH.one (i := 1) (by kernel_rfl) ?_
  refine RHone.eff rfl (Wanted.free rfl) (E.call rfl go12 rfl (sum_ok (l := (bytesV (seedV s) q)) (by repeat (first | exact List.Mem.head _ | assumption | apply List.Mem.tail)) (by unfold Tab; repeat (first | exact List.Mem.head _ | assumption | apply List.Mem.tail)) (by omega))) rfl ?_
  rintro _ _ ⟨rfl, rfl⟩
  refine ⟨.inr (by repeat (first | exact Ent.refl _ | (apply Ent.cons; (· repeat (first | exact Pick.here | (refine Pick.sl ?_; (· repeat (first | exact List.Mem.head _ | assumption | apply List.Mem.tail))) | apply Pick.there))) | (refine Ent.trans (Ent.drop _ _) ?_))), ?_⟩
  refine RH.one (i := 3) (by kernel_rfl) ?_
  refine RHone.eff rfl (Wanted.free rfl) (E.call rfl go13 rfl (rsum_ok (l := (bytesV (seedV s) q)) (by repeat (first | exact List.Mem.head _ | assumption | apply List.Mem.tail)) (by omega))) rfl ?_
  rintro _ _ ⟨rfl, rfl⟩
  refine ⟨.inr (by repeat (first | exact Ent.refl _ | (apply Ent.cons; (· repeat (first | exact Pick.here | (refine Pick.sl ?_; (· repeat (first | exact List.Mem.head _ | assumption | apply List.Mem.tail))) | apply Pick.there))) | (refine Ent.trans (Ent.drop _ _) ?_))), ?_⟩
  refine RH.cmpT 4 rfl (by kernel_rfl) (by kernel_rfl) (by kernel_rfl) (by kernel_rfl) (Wanted.free rfl) (V.eqlArr rfl ar24 on5 ui5 ce24 eg24 inj8 (sum_length _) (sum_length _) rfl rfl) rfl rfl ?_
  refine RH.val 5 rfl (by kernel_rfl) (by kernel_rfl) (by kernel_rfl) (by kernel_rfl) (Wanted.free rfl) (V.move rfl rfl) rfl ?_
  refine RH.val 6 rfl (by kernel_rfl) (by kernel_rfl) (by kernel_rfl) (by kernel_rfl) (Wanted.yes rfl rfl rfl rfl) (V.loadAgg rfl ag33 rfl (by repeat (first | exact Pick.here | assumption | apply Pick.there)) (dg_all (feed_length _ _ first_length)) (dg_len (feed_length _ _ first_length))) rfl ?_
  refine RH.val 7 rfl (by kernel_rfl) (by kernel_rfl) (by kernel_rfl) (by kernel_rfl) (Wanted.yes rfl rfl rfl rfl) (V.move rfl rfl) rfl ?_
  refine RH.one (i := 8) (by kernel_rfl) ?_
  refine RHone.eff rfl (Wanted.yes rfl rfl rfl rfl) (E.call rfl go20 rfl (state_ok (l := (bytesV (seedV s) q)) (by repeat (first | exact List.Mem.head _ | assumption | apply List.Mem.tail)) (by omega))) rfl ?_
  rintro _ _ ⟨a22, c22, rfl, rfl⟩
  refine ⟨.inr (by repeat (first | exact Ent.refl _ | (apply Ent.cons; (· repeat (first | exact Pick.here | (refine Pick.sl ?_; (· repeat (first | exact List.Mem.head _ | assumption | apply List.Mem.tail))) | apply Pick.there))) | (refine Ent.trans (Ent.drop _ _) ?_))), ?_⟩
  refine RH.one (i := 9) (by kernel_rfl) ?_
  refine RHone.eff rfl (Wanted.yes rfl rfl rfl rfl) (E.call rfl go19 rfl (same_ok (X := (bytesV (seedV s) q)) (by repeat (first | exact List.Mem.head _ | assumption | apply List.Mem.tail)) (by repeat (first | exact List.Mem.head _ | assumption | apply List.Mem.tail)))) rfl ?_
  rintro _ _ ⟨rfl, rfl⟩
  refine ⟨.inr (by repeat (first | exact Ent.refl _ | (apply Ent.cons; (· repeat (first | exact Pick.here | (refine Pick.sl ?_; (· repeat (first | exact List.Mem.head _ | assumption | apply List.Mem.tail))) | apply Pick.there))) | (refine Ent.trans (Ent.drop _ _) ?_))), ?_⟩
  refine RH.pure 10 rfl (by kernel_rfl) (by kernel_rfl) (by kernel_rfl) (by kernel_rfl) (Wanted.free rfl) (V.pick_true rfl rfl rfl) rfl ?_
  refine RH.val 11 rfl (by kernel_rfl) (by kernel_rfl) (by kernel_rfl) (by kernel_rfl) (Wanted.free rfl) (V.move rfl rfl) rfl ?_
  refine RH.one (i := 12) (by kernel_rfl) ?_
  refine RHone.eff rfl (Wanted.yes rfl rfl rfl rfl) (E.call rfl go14 rfl (lives_ok (by unfold Tab; repeat (first | exact List.Mem.head _ | assumption | apply List.Mem.tail)))) rfl ?_
  rintro _ _ ⟨rfl, rfl⟩
  refine ⟨.inr (by repeat (first | exact Ent.refl _ | (apply Ent.cons; (· repeat (first | exact Pick.here | (refine Pick.sl ?_; (· repeat (first | exact List.Mem.head _ | assumption | apply List.Mem.tail))) | apply Pick.there))) | (refine Ent.trans (Ent.drop _ _) ?_))), ?_⟩
  refine RH.pure 13 rfl (by kernel_rfl) (by kernel_rfl) (by kernel_rfl) (by kernel_rfl) (Wanted.free rfl) (V.pick_true rfl rfl rfl) rfl ?_
  refine RH.val 14 rfl (by kernel_rfl) (by kernel_rfl) (by kernel_rfl) (by kernel_rfl) (Wanted.free rfl) (V.assign rfl rfl) rfl ?_
  refine RH.done (by kernel_rfl) ?_
  refine SG.retE (Ret.r1 Tryd.func4 rfl (.tmp rfl)) ?_ ⟨rfl, rfl⟩
  repeat (first | exact Ent.refl _ | (apply Ent.cons; (· repeat (first | exact Pick.here | (refine Pick.sl ?_; (· repeat (first | exact List.Mem.head _ | assumption | apply List.Mem.tail))) | apply Pick.there))) | (refine Ent.trans (Ent.drop _ _) ?_))

end Go.Proofs.YtbljfilkdhgcnaaDoor
