/- The law DigestGoes. -/
import Derived.Test.YtbljfilkdhgcnaaDoorRest1
namespace Go.Proofs.YtbljfilkdhgcnaaDoor
open Go.Wk Go.Sha

set_option maxRecDepth 100000 in
theorem goes_law {κ : World} {L : List Assn} {a a' a'' : Option Addr} {n c n' c' n'' c'' : Nat} {x y z : List UInt8} (hm : Sl R8 a n c x ∈ L) (hm' : Sl R8 a' n' c' y ∈ L) (hm'' : Sl R8 a'' n'' c'' z ∈ L) (hT : Tab L) (hx : x.length ≤ 10000000) (hy : y.length ≤ 10000000) (hz : z.length ≤ 10000000) :
    Ctr Tryd.prog 7 #[.slice a n c, .slice a' n' c', .slice a'' n'' c''] κ L (fun v M => v = vB true ∧ M = L) := by
  refine Ctr.enter (vs := [.slice a n c, .slice a' n' c', .slice a'' n'' c'']) (m := 61) Tryd.func7 rfl rfl rfl ?_
  unfold Tab at hT
  refine SG.sl hm fun hn _ _ => ?_
  refine SG.sl hm' fun hn' _ _ => ?_
  refine SG.sl hm'' fun hn'' _ _ => ?_
  subst hn; subst hn'; subst hn''
  refine SG.ent (slX _) ?_
  refine SG.seq ?_
  refine SG.region ?_
  refine RL.val (Wanted.free rfl) (V.assign rfl rfl) rfl ?_
  refine RL.nil ?_
  refine SG.seq ?_
  refine SG.region ?_
  refine RL.eff (Wanted.free rfl) (E.call rfl go18 rfl (newX_ok)) rfl ?_
  rintro _ _ ⟨rfl, rfl⟩
  refine RL.val (Wanted.free rfl) (V.move rfl rfl) rfl ?_
  refine RL.eff (Wanted.free rfl) (E.call rfl go17 rfl (writeX_ok (X := []) (b := x) (by repeat (first | exact List.Mem.head _ | assumption | apply List.Mem.tail)) (by repeat (first | exact List.Mem.head _ | assumption | apply List.Mem.tail)) (by unfold Tab; repeat (first | exact List.Mem.head _ | assumption | apply List.Mem.tail)) (by first | omega | (simp; done) | (simp; omega)) (by first | omega | (simp; done) | (simp; omega)))) rfl ?_
  rintro _ _ ⟨a15, c15, rfl, rfl⟩
  rw [List.nil_append]
  refine RL.eff (Wanted.free rfl) (E.alloc rfl ze33) rfl ?_
  rintro _ _ ⟨b7, rfl, rfl⟩
  refine RL.eff (Wanted.free rfl) (E.storeWhole rfl rfl rfl (dg_len (feed_length _ _ first_length)) sz33 (by repeat (first | exact Pick.here | assumption | apply Pick.there)) (dg_one rfl rfl) (by first | rfl | (rw [dg_len (feed_length _ _ first_length)]))) rfl ?_
  rintro _ _ rfl
  refine RL.nil ?_
  refine SG.seq ?_
  refine SG.region ?_
  refine RL.val (Wanted.free rfl) (V.loadAgg rfl ag33 rfl (by repeat (first | exact Pick.here | assumption | apply Pick.there)) (dg_all (feed_length _ _ first_length)) (dg_len (feed_length _ _ first_length))) rfl ?_
  refine RL.eff (Wanted.free rfl) (E.call rfl go22 rfl (closeX_ok (X := x) (by repeat (first | exact List.Mem.head _ | assumption | apply List.Mem.tail)) (by unfold Tab; repeat (first | exact List.Mem.head _ | assumption | apply List.Mem.tail)) (by first | omega | (simp; done) | (simp; omega)))) rfl ?_
  rintro _ _ ⟨rfl, rfl⟩
  refine RL.eff (Wanted.free rfl) (E.alloc rfl ze24) rfl ?_
  rintro _ _ ⟨b8, rfl, rfl⟩
  refine RL.eff (Wanted.free rfl) (E.storeWhole rfl rfl rfl (by rw [List.length_map]; exact sum_length _) sz24 (by repeat (first | exact Pick.here | assumption | apply Pick.there)) (one8 _) (by first | rfl | (rw [List.length_replicate]))) rfl ?_
  rintro _ _ rfl
  refine RL.nil ?_
  refine SG.seq ?_
  refine SG.region ?_
  refine RL.val (Wanted.free rfl) (V.loadAgg rfl ag33 rfl (by repeat (first | exact Pick.here | assumption | apply Pick.there)) (dg_all (feed_length _ _ first_length)) (dg_len (feed_length _ _ first_length))) rfl ?_
  refine RL.val (Wanted.free rfl) (V.move rfl rfl) rfl ?_
  refine RL.eff (Wanted.free rfl) (E.call rfl go17 rfl (writeX_ok (X := x) (b := y) (by repeat (first | exact List.Mem.head _ | assumption | apply List.Mem.tail)) (by repeat (first | exact List.Mem.head _ | assumption | apply List.Mem.tail)) (by unfold Tab; repeat (first | exact List.Mem.head _ | assumption | apply List.Mem.tail)) (by first | omega | (simp; done) | (simp; omega)) (by first | omega | (simp; done) | (simp; omega)))) rfl ?_
  rintro _ _ ⟨a20, c20, rfl, rfl⟩
  refine RL.eff (Wanted.free rfl) (E.alloc rfl ze33) rfl ?_
  rintro _ _ ⟨b9, rfl, rfl⟩
  refine RL.eff (Wanted.free rfl) (E.storeWhole rfl rfl rfl (dg_len (feed_length _ _ first_length)) sz33 (by repeat (first | exact Pick.here | assumption | apply Pick.there)) (dg_one rfl rfl) (by first | rfl | (rw [dg_len (feed_length _ _ first_length)]))) rfl ?_
  rintro _ _ rfl
  refine RL.nil ?_
  refine SG.seq ?_
  refine SG.region ?_
  refine RL.val (Wanted.free rfl) (V.loadAgg rfl ag33 rfl (by repeat (first | exact Pick.here | assumption | apply Pick.there)) (dg_all (feed_length _ _ first_length)) (dg_len (feed_length _ _ first_length))) rfl ?_
  refine RL.val (Wanted.free rfl) (V.move rfl rfl) rfl ?_
  refine RL.eff (Wanted.free rfl) (E.call rfl go17 rfl (writeX_ok (X := x) (b := z) (by repeat (first | exact List.Mem.head _ | assumption | apply List.Mem.tail)) (by repeat (first | exact List.Mem.head _ | assumption | apply List.Mem.tail)) (by unfold Tab; repeat (first | exact List.Mem.head _ | assumption | apply List.Mem.tail)) (by first | omega | (simp; done) | (simp; omega)) (by first | omega | (simp; done) | (simp; omega)))) rfl ?_
  rintro _ _ ⟨a23, c23, rfl, rfl⟩
  refine RL.eff (Wanted.free rfl) (E.alloc rfl ze33) rfl ?_
  rintro _ _ ⟨b10, rfl, rfl⟩
  refine RL.eff (Wanted.free rfl) (E.storeWhole rfl rfl rfl (dg_len (feed_length _ _ first_length)) sz33 (by repeat (first | exact Pick.here | assumption | apply Pick.there)) (dg_one rfl rfl) (by first | rfl | (rw [dg_len (feed_length _ _ first_length)]))) rfl ?_
  rintro _ _ rfl
  refine RL.nil ?_
  refine SG.seq ?_
  refine SG.region ?_
  refine RL.val (Wanted.free rfl) (V.loadAgg rfl ag33 rfl (by repeat (first | exact Pick.here | assumption | apply Pick.there)) (dg_all (feed_length _ _ first_length)) (dg_len (feed_length _ _ first_length))) rfl ?_
  refine RL.eff (Wanted.free rfl) (E.call rfl go22 rfl (closeX_ok (X := (x ++ y)) (by repeat (first | exact List.Mem.head _ | assumption | apply List.Mem.tail)) (by unfold Tab; repeat (first | exact List.Mem.head _ | assumption | apply List.Mem.tail)) (by first | omega | (simp; done) | (simp; omega)))) rfl ?_
  rintro _ _ ⟨rfl, rfl⟩
  refine RL.eff (Wanted.free rfl) (E.lit0 (T := R8) rfl rfl el22) rfl ?_
  rintro _ _ ⟨b26, rfl, rfl⟩
  refine RL.val (Wanted.free rfl) (V.move rfl rfl) rfl ?_
  refine RL.eff (Wanted.free rfl) (E.append (T := R8) rfl rfl rfl el22 el22.noInt rfl rfl (by repeat (first | exact Pick.here | assumption | apply Pick.there)) (Src.sl (by decide) (by repeat (first | exact List.Mem.head _ | assumption | apply List.Mem.tail))) (by first | omega | (simp; omega)) (by first | omega | (simp; omega))) rfl ?_
  intro _ _ hK25
  try rw [List.nil_append] at hK25
  try rw [Nat.zero_add] at hK25
  obtain ⟨a28, c28, rfl, rfl⟩ := hK25
  refine RL.val (Wanted.free rfl) (V.move rfl rfl) rfl ?_
  refine RL.eff (Wanted.free rfl) (E.append (T := R8) rfl rfl rfl el22 el22.noInt rfl rfl (by repeat (first | exact Pick.here | assumption | apply Pick.there)) (Src.sl (by decide) (by repeat (first | exact List.Mem.head _ | assumption | apply List.Mem.tail))) (by first | omega | (simp; omega)) (by first | omega | (simp; omega))) rfl ?_
  intro _ _ hK27
  try rw [List.nil_append] at hK27
  try rw [Nat.zero_add] at hK27
  rw [← List.length_append] at hK27
  obtain ⟨a30, c30, rfl, rfl⟩ := hK27
  refine RL.publish (T := R8) (a := a30) Pick.here ?_
  refine RL.eff (Wanted.free rfl) (E.call rfl go12 rfl (sum_ok (l := x ++ y) (by repeat (first | exact List.Mem.head _ | assumption | apply List.Mem.tail)) (by unfold Tab; repeat (first | exact List.Mem.head _ | assumption | apply List.Mem.tail)) (by simp; omega))) rfl ?_
  rintro _ _ ⟨rfl, rfl⟩
  refine RL.cmpT (Wanted.free rfl) (V.eqlArr rfl ar24 on5 ui5 ce24 eg24 inj8 (sum_length _) (sum_length _) rfl rfl) rfl rfl ?_
  refine RL.val (Wanted.free rfl) (V.assign rfl rfl) rfl ?_
  refine RL.nil ?_
  refine SG.seq ?_
  refine SG.region ?_
  refine RL.val (Wanted.free rfl) (V.loadAgg rfl ag33 rfl (by repeat (first | exact Pick.here | assumption | apply Pick.there)) (dg_all (feed_length _ _ first_length)) (dg_len (feed_length _ _ first_length))) rfl ?_
  refine RL.eff (Wanted.free rfl) (E.call rfl go22 rfl (closeX_ok (X := (x ++ z)) (by repeat (first | exact List.Mem.head _ | assumption | apply List.Mem.tail)) (by unfold Tab; repeat (first | exact List.Mem.head _ | assumption | apply List.Mem.tail)) (by first | omega | (simp; done) | (simp; omega)))) rfl ?_
  rintro _ _ ⟨rfl, rfl⟩
  refine RL.eff (Wanted.free rfl) (E.lit0 (T := R8) rfl rfl el22) rfl ?_
  rintro _ _ ⟨b35, rfl, rfl⟩
  refine RL.val (Wanted.free rfl) (V.move rfl rfl) rfl ?_
  refine RL.eff (Wanted.free rfl) (E.append (T := R8) rfl rfl rfl el22 el22.noInt rfl rfl (by repeat (first | exact Pick.here | assumption | apply Pick.there)) (Src.sl (by decide) (by repeat (first | exact List.Mem.head _ | assumption | apply List.Mem.tail))) (by first | omega | (simp; omega)) (by first | omega | (simp; omega))) rfl ?_
  intro _ _ hK34
  try rw [List.nil_append] at hK34
  try rw [Nat.zero_add] at hK34
  obtain ⟨a37, c37, rfl, rfl⟩ := hK34
  refine RL.val (Wanted.free rfl) (V.move rfl rfl) rfl ?_
  refine RL.eff (Wanted.free rfl) (E.append (T := R8) rfl rfl rfl el22 el22.noInt rfl rfl (by repeat (first | exact Pick.here | assumption | apply Pick.there)) (Src.sl (by decide) (by repeat (first | exact List.Mem.head _ | assumption | apply List.Mem.tail))) (by first | omega | (simp; omega)) (by first | omega | (simp; omega))) rfl ?_
  intro _ _ hK36
  try rw [List.nil_append] at hK36
  try rw [Nat.zero_add] at hK36
  rw [← List.length_append] at hK36
  obtain ⟨a39, c39, rfl, rfl⟩ := hK36
  refine RL.publish (T := R8) (a := a39) Pick.here ?_
  refine RL.eff (Wanted.free rfl) (E.call rfl go12 rfl (sum_ok (l := x ++ z) (by repeat (first | exact List.Mem.head _ | assumption | apply List.Mem.tail)) (by unfold Tab; repeat (first | exact List.Mem.head _ | assumption | apply List.Mem.tail)) (by simp; omega))) rfl ?_
  rintro _ _ ⟨rfl, rfl⟩
  refine RL.cmpT (Wanted.free rfl) (V.eqlArr rfl ar24 on5 ui5 ce24 eg24 inj8 (sum_length _) (sum_length _) rfl rfl) rfl rfl ?_
  refine RL.val (Wanted.free rfl) (V.assign rfl rfl) rfl ?_
  refine RL.nil ?_
  refine SG.seq ?_
  refine SG.drawL 20 20 wide rfl rfl ?_
  refine RH.val 0 rfl (by kernel_rfl) (by kernel_rfl) (by kernel_rfl) (by kernel_rfl) (Wanted.free rfl) (V.move rfl rfl) rfl ?_
  refine RH.val 1 rfl (by kernel_rfl) (by kernel_rfl) (by kernel_rfl) (by kernel_rfl) (Wanted.free rfl) (V.move rfl rfl) rfl ?_
  refine RH.val 2 rfl (by kernel_rfl) (by kernel_rfl) (by kernel_rfl) (by kernel_rfl) (Wanted.yes rfl rfl rfl rfl) (V.move rfl rfl) rfl ?_
  refine RH.pure 3 rfl (by kernel_rfl) (by kernel_rfl) (by kernel_rfl) (by kernel_rfl) (Wanted.free rfl) (V.pick_true rfl rfl rfl) rfl ?_
  refine RH.val 4 rfl (by kernel_rfl) (by kernel_rfl) (by kernel_rfl) (by kernel_rfl) (Wanted.free rfl) (V.move rfl rfl) rfl ?_
  refine RH.val 5 rfl (by kernel_rfl) (by kernel_rfl) (by kernel_rfl) (by kernel_rfl) (Wanted.yes rfl rfl rfl rfl) (V.loadAgg rfl ag33 rfl (by repeat (first | exact Pick.here | assumption | apply Pick.there)) (dg_all (feed_length _ _ first_length)) (dg_len (feed_length _ _ first_length))) rfl ?_
  refine RH.val 7 rfl (by kernel_rfl) (by kernel_rfl) (by kernel_rfl) (by kernel_rfl) (Wanted.yes rfl rfl rfl rfl) (V.loadAgg (us := _) rfl ag24 rfl (by repeat (first | exact Pick.here | assumption | apply Pick.there)) (take8 (sum_length _)) (by rw [List.length_map]; exact (sum_length _))) rfl ?_
  refine RH.one (i := 6) (by kernel_rfl) ?_
  refine RHone.eff rfl (Wanted.yes rfl rfl rfl rfl) (E.call rfl go22 rfl (closeX_ok (X := x) (by repeat (first | exact List.Mem.head _ | assumption | apply List.Mem.tail)) (by unfold Tab; repeat (first | exact List.Mem.head _ | assumption | apply List.Mem.tail)) (by first | omega | (simp; done) | (simp; omega)))) rfl ?_
  rintro _ _ ⟨rfl, rfl⟩
  refine ⟨.inr (by repeat (first | exact Ent.refl _ | (apply Ent.cons; (· repeat (first | exact Pick.here | (refine Pick.sl ?_; (· repeat (first | exact List.Mem.head _ | assumption | apply List.Mem.tail))) | apply Pick.there))) | (refine Ent.trans (Ent.drop _ _) ?_))), ?_⟩
  refine RH.cmpT 8 rfl (by kernel_rfl) (by kernel_rfl) (by kernel_rfl) (by kernel_rfl) (Wanted.yes rfl rfl rfl rfl) (V.eqlArr rfl ar24 on5 ui5 ce24 eg24 inj8 (sum_length _) (sum_length _) rfl rfl) rfl rfl ?_
  refine RH.pure 9 rfl (by kernel_rfl) (by kernel_rfl) (by kernel_rfl) (by kernel_rfl) (Wanted.free rfl) (V.pick_true rfl rfl rfl) rfl ?_
  refine RH.val 10 rfl (by kernel_rfl) (by kernel_rfl) (by kernel_rfl) (by kernel_rfl) (Wanted.free rfl) (V.move rfl rfl) rfl ?_
  refine RH.val 11 rfl (by kernel_rfl) (by kernel_rfl) (by kernel_rfl) (by kernel_rfl) (Wanted.yes rfl rfl rfl rfl) (V.loadAgg (us := _) rfl ag24 rfl (by repeat (first | exact Pick.here | assumption | apply Pick.there)) (take8 (sum_length _)) (by rw [List.length_map]; exact (sum_length _))) rfl ?_
  refine RH.val 12 rfl (by kernel_rfl) (by kernel_rfl) (by kernel_rfl) (by kernel_rfl) (Wanted.yes rfl rfl rfl rfl) (V.move rfl rfl) rfl ?_
  refine RH.one (i := 13) (by kernel_rfl) ?_
  refine RHone.eff rfl (Wanted.yes rfl rfl rfl rfl) (E.call rfl go12 rfl (sum_ok (l := x) (by repeat (first | exact List.Mem.head _ | assumption | apply List.Mem.tail)) (by unfold Tab; repeat (first | exact List.Mem.head _ | assumption | apply List.Mem.tail)) (by omega))) rfl ?_
  rintro _ _ ⟨rfl, rfl⟩
  refine ⟨.inr (by repeat (first | exact Ent.refl _ | (apply Ent.cons; (· repeat (first | exact Pick.here | (refine Pick.sl ?_; (· repeat (first | exact List.Mem.head _ | assumption | apply List.Mem.tail))) | apply Pick.there))) | (refine Ent.trans (Ent.drop _ _) ?_))), ?_⟩
  refine RH.cmpT 14 rfl (by kernel_rfl) (by kernel_rfl) (by kernel_rfl) (by kernel_rfl) (Wanted.yes rfl rfl rfl rfl) (V.eqlArr rfl ar24 on5 ui5 ce24 eg24 inj8 (sum_length _) (sum_length _) rfl rfl) rfl rfl ?_
  refine RH.pure 15 rfl (by kernel_rfl) (by kernel_rfl) (by kernel_rfl) (by kernel_rfl) (Wanted.free rfl) (V.pick_true rfl rfl rfl) rfl ?_
  refine RH.val 16 rfl (by kernel_rfl) (by kernel_rfl) (by kernel_rfl) (by kernel_rfl) (Wanted.free rfl) (V.move rfl rfl) rfl ?_
  refine RH.one (i := 17) (by kernel_rfl) ?_
  refine RHone.eff rfl (Wanted.yes rfl rfl rfl rfl) (E.call rfl go14 rfl (lives_ok (by unfold Tab; repeat (first | exact List.Mem.head _ | assumption | apply List.Mem.tail)))) rfl ?_
  rintro _ _ ⟨rfl, rfl⟩
  refine ⟨.inr (by repeat (first | exact Ent.refl _ | (apply Ent.cons; (· repeat (first | exact Pick.here | (refine Pick.sl ?_; (· repeat (first | exact List.Mem.head _ | assumption | apply List.Mem.tail))) | apply Pick.there))) | (refine Ent.trans (Ent.drop _ _) ?_))), ?_⟩
  refine RH.pure 18 rfl (by kernel_rfl) (by kernel_rfl) (by kernel_rfl) (by kernel_rfl) (Wanted.free rfl) (V.pick_true rfl rfl rfl) rfl ?_
  refine RH.val 19 rfl (by kernel_rfl) (by kernel_rfl) (by kernel_rfl) (by kernel_rfl) (Wanted.free rfl) (V.assign rfl rfl) rfl ?_
  refine RH.done (by kernel_rfl) ?_
  refine SG.retE (Ret.r1 Tryd.func7 rfl (.tmp rfl)) ?_ ⟨rfl, rfl⟩
  repeat (first | exact Ent.refl _ | (apply Ent.cons; (· repeat (first | exact Pick.here | (refine Pick.sl ?_; (· repeat (first | exact List.Mem.head _ | assumption | apply List.Mem.tail))) | apply Pick.there))) | (refine Ent.trans (Ent.drop _ _) ?_))

end Go.Proofs.YtbljfilkdhgcnaaDoor
