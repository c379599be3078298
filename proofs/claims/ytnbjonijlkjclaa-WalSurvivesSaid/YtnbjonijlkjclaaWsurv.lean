/- The walk of WalSurvives. -/
import Derived.Test.YtnbjonijlkjclaaWfail
namespace Go.Proofs.Ytnbjonijlkjclaa
open Go.Wk Go.Wl Go.Dsk

set_option maxRecDepth 100000 in
set_option maxHeartbeats 2000000 in
theorem survives_law {κ : World} {L : List Assn} {s fz : Int} {a at_ : Option Addr} {n0 c nt ct : Nat} {l : List ActD} {ts : List Int} (hs : inInt s) (hf : inInt fz) (hm : Sl RAct a n0 c l ∈ L) (ht : Sl RI at_ nt ct ts ∈ L)  :
    Ctr Try.prog 6 #[vI s, .slice a n0 c, vI fz, .slice at_ nt ct] κ L (fun v M => v = vB true ∧ M = L) := by
 refine Ctr.enter (vs := [vI s, .slice a n0 c, vI fz, .slice at_ nt ct]) (m := 29) Try.func6 rfl rfl rfl ?_
 refine SG.fact (fun w hs => Sep.slInts hs ht) fun hti => ?_
 refine SG.seq ?_
 refine SG.region ?_
 refine RL.val (Wanted.free rfl) (V.assign rfl rfl) rfl ?_
 refine RL.nil ?_
 refine SG.seq ?_
 refine SG.region ?_
 refine RL.val (Wanted.free rfl) (V.move rfl rfl) rfl ?_
 refine RL.eff (Wanted.free rfl) (E.call rfl go23 rfl (begin_ok hs)) rfl ?_
 rintro _ _ ⟨q, b, lb, db, g, D, hq, hP, hC, hlen, hrs, hsy, rfl, rfl⟩
 refine RL.val (Wanted.free rfl) (V.assign rfl rfl) rfl ?_
 refine RL.nil ?_
 refine SG.seq ?_
 refine SG.seq ?_
 refine SG.region ?_
 refine RL.val (Wanted.free rfl) (V.move rfl rfl) rfl ?_
 refine RL.cmpF (Wanted.free rfl) (V.eqlPtrNil rfl up48 rfl rfl) rfl (by simp) ?_
 refine RL.nil ?_
 refine SG.cond_false rfl ?_
 refine SG.skip ?_
 refine SG.seq ?_
 refine SG.openPast (b := b) (lb := lb) (g := g) (rst := false) pickX fun xa xn xc => ?_
 have hnn := hP.en
 dsimp only [pc]
 rw [hnn]
 have hfz := aroundV_bd (n := fz) (most := 60) (by omega)
 refine SG.drawN 16 16 (L) wide rfl rfl (by repeat (first | exact Ent.refl _ | (apply Ent.cons; (· repeat (first | exact Pick.here | (refine Pick.sl ?_; (· repeat (first | exact List.Mem.head _ | assumption | apply List.Mem.tail))) | apply Pick.there))) | (refine Ent.trans (Ent.drop _ _) ?_))) ?_
 refine RH.val 0 rfl krX krX krX krX (Wanted.free rfl) (V.move rfl rfl) rfl ?_
 refine RH.val 1 rfl krX krX krX krX (Wanted.free rfl) (V.move rfl rfl) rfl ?_
 refine RH.val 2 rfl krX krX krX krX (Wanted.free rfl) (V.move rfl rfl) rfl ?_
 refine RH.val 4 rfl krX krX krX krX (Wanted.free rfl) (V.move rfl rfl) rfl ?_
 refine RH.val 5 rfl krX krX krX krX (Wanted.free rfl) (V.move rfl rfl) rfl ?_
 refine RH.val 6 rfl krX krX krX krX (Wanted.free rfl) (V.nilCheck rfl rfl) rfl ?_
 refine RH.val 7 rfl krX krX krX krX (Wanted.free rfl) (V.fieldAddr rfl rfl fo51_2) rfl ?_
 refine RH.two (i := 3) (j := 8) krX ?_ ?_
 ·
  refine RHone.eff rfl (Wanted.free rfl) (E.call rfl go9 rfl (around_ok _ _ hf.1 hf.2 (by omega))) rfl ?_
  rintro _ _ ⟨rfl, rfl⟩
  refine ⟨.inr entX, ?_⟩
  refine RH.one (i := 8) krX ?_
  refine RHone.eff rfl (Wanted.free rfl) (E.val (V.load rfl on3 rfl pickX rfl)) rfl ?_
  rintro _ _ ⟨rfl, rfl⟩
  refine ⟨.inr entX, ?_⟩
  refine RH.val 9 rfl krX krX krX krX (Wanted.free rfl) (V.bin rfl rfl rfl (B.addI (by omega) (by omega))) rfl ?_
  refine RH.one (i := 10) krX ?_
  refine RHone.eff rfl (Wanted.free rfl) (E.call rfl go31 rfl (torn_ok (l := ts) (a := at_) memX hti (by omega) (by omega))) rfl ?_
  rintro _ _ ⟨a24, m24, c24, us, rfl, rfl⟩
  refine ⟨.inr entX, ?_⟩
  refine RH.publish (T := RTorn) (a := a24) Pick.here ?_
  rw [← hnn]
  refine RH.ent (Past.ent (b := b) (lb := lb) (db := db) (g := g) (rst := false) (xa := xa) (xn := xn) (xc := xc) (by repeat (first | exact Ent.refl _ | (apply Ent.cons; (· repeat (first | exact Pick.here | (refine Pick.sl ?_; (· repeat (first | exact List.Mem.head _ | assumption | apply List.Mem.tail))) | apply Pick.there))) | (refine Ent.trans (Ent.drop _ _) ?_)))) ?_
  rw [hnn]
  refine RH.one (i := 11) krX ?_
  refine RHone.eff rfl (Wanted.free rfl) (E.call rfl go30 rfl (fail_ok (b := b) (lb := lb) (db := db) hP (by omega) (by omega) (by omega) pickX pickX memX (ts := us) memX)) rfl ?_
  rintro _ _ ⟨rfl, rfl⟩
  refine ⟨.inr entX, ?_⟩
  refine RH.val 12 rfl krX krX krX krX (Wanted.free rfl) (V.move rfl rfl) rfl ?_
  refine RH.one (i := 13) krX ?_
  refine RHone.eff rfl (Wanted.yes rfl rfl rfl rfl) (E.call rfl go17 rfl (lives_ok)) rfl ?_
  rintro _ _ ⟨rfl, rfl⟩
  refine ⟨.inr entX, ?_⟩
  refine RH.pure 14 rfl krX krX krX krX (Wanted.free rfl) (V.pick_true rfl rfl rfl) rfl ?_
  refine RH.val 15 rfl krX krX krX krX (Wanted.free rfl) (V.assign rfl rfl) rfl ?_
  refine RH.done krX ?_
  refine SG.retE (Ret.r1 Try.func6 rfl (.tmp rfl)) ?_ ⟨rfl, rfl⟩
  exact entX
 ·
  refine RHone.eff rfl (Wanted.free rfl) (E.val (V.load rfl on3 rfl pickX rfl)) rfl ?_
  rintro _ _ ⟨rfl, rfl⟩
  refine ⟨.inr entX, ?_⟩
  refine RH.val 9 rfl krX krX krX krX (Wanted.free rfl) (V.bin rfl rfl rfl (B.addI (by omega) (by omega))) rfl ?_
  refine RH.one (i := 3) krX ?_
  refine RHone.eff rfl (Wanted.free rfl) (E.call rfl go9 rfl (around_ok _ _ hf.1 hf.2 (by omega))) rfl ?_
  rintro _ _ ⟨rfl, rfl⟩
  refine ⟨.inr entX, ?_⟩
  refine RH.one (i := 10) krX ?_
  refine RHone.eff rfl (Wanted.free rfl) (E.call rfl go31 rfl (torn_ok (l := ts) (a := at_) memX hti (by omega) (by omega))) rfl ?_
  rintro _ _ ⟨a24, m24, c24, us, rfl, rfl⟩
  refine ⟨.inr entX, ?_⟩
  refine RH.publish (T := RTorn) (a := a24) Pick.here ?_
  rw [← hnn]
  refine RH.ent (Past.ent (b := b) (lb := lb) (db := db) (g := g) (rst := false) (xa := xa) (xn := xn) (xc := xc) (by repeat (first | exact Ent.refl _ | (apply Ent.cons; (· repeat (first | exact Pick.here | (refine Pick.sl ?_; (· repeat (first | exact List.Mem.head _ | assumption | apply List.Mem.tail))) | apply Pick.there))) | (refine Ent.trans (Ent.drop _ _) ?_)))) ?_
  rw [hnn]
  refine RH.one (i := 11) krX ?_
  refine RHone.eff rfl (Wanted.free rfl) (E.call rfl go30 rfl (fail_ok (b := b) (lb := lb) (db := db) hP (by omega) (by omega) (by omega) pickX pickX memX (ts := us) memX)) rfl ?_
  rintro _ _ ⟨rfl, rfl⟩
  refine ⟨.inr entX, ?_⟩
  refine RH.val 12 rfl krX krX krX krX (Wanted.free rfl) (V.move rfl rfl) rfl ?_
  refine RH.one (i := 13) krX ?_
  refine RHone.eff rfl (Wanted.yes rfl rfl rfl rfl) (E.call rfl go17 rfl (lives_ok)) rfl ?_
  rintro _ _ ⟨rfl, rfl⟩
  refine ⟨.inr entX, ?_⟩
  refine RH.pure 14 rfl krX krX krX krX (Wanted.free rfl) (V.pick_true rfl rfl rfl) rfl ?_
  refine RH.val 15 rfl krX krX krX krX (Wanted.free rfl) (V.assign rfl rfl) rfl ?_
  refine RH.done krX ?_
  refine SG.retE (Ret.r1 Try.func6 rfl (.tmp rfl)) ?_ ⟨rfl, rfl⟩
  exact entX

end Go.Proofs.Ytnbjonijlkjclaa
