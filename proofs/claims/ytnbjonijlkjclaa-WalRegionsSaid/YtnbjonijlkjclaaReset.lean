/- Reset. -/
import Derived.Test.YtnbjonijlkjclaaLogs1
namespace Go.Proofs.Ytnbjonijlkjclaa
open Go.Wk Go.Wl Go.Dsk

set_option maxRecDepth 100000 in
set_option maxHeartbeats 1000000 in
theorem lReset_ok {κ : World} {L : List Assn} {L1 : List Assn} {b db : Nat} {g : Lg} (hg : LgOk g) (hp : Pick (Lgm b db g) L L1) {L2 : List Assn} {D : Dk} {m0 : Nat} (hD : D.ok m0) (hm0 : m0 ≤ 100000) (hd : Pick (Dsk db D) L1 L2) :
    Ctr Try.prog 22 #[ptr b 0] κ L (fun v M => v = vI (putE D g.f (g.turn + 1) 0) ∧ M = Lgm b db (resetL g D) :: Dsk db (putD D g.f (g.turn + 1) 0) :: L2) := by
 refine Ctr.enter (vs := [ptr b 0]) (m := 28) Try.func22 rfl rfl rfl ?_
 refine SG.openLg hp fun da dn dc ra rn rc => ?_
 have hgf0 := hg.f0
 have hgf1 := hg.f1
 have hgn0 := hg.n0
 have hgn1 := hg.n1
 have hgd := hg.d
 have hgr := hg.r
 have hgu0 := hg.u0
 have hgu1 := hg.u1
 have hgs0 := hg.s0
 have hgs1 := hg.s1
 refine SG.ent (Ent.trans (Ent.frame _ (Ent.frame _ (Ent.frame _ hd))) (Ent.refl _)) ?_
 refine SG.seq ?_
 refine SG.region ?_
 refine RL.val (Wanted.free rfl) (V.assign rfl rfl) rfl ?_
 refine RL.nil ?_
 refine SG.seq ?_
 refine SG.seq ?_
 refine SG.region ?_
 refine RL.val (Wanted.free rfl) (V.move rfl rfl) rfl ?_
 refine RL.val (Wanted.free rfl) (V.move rfl rfl) rfl ?_
 refine RL.val (Wanted.free rfl) (V.nilCheck rfl rfl) rfl ?_
 refine RL.val (Wanted.free rfl) (V.fieldAddr rfl rfl fo86_3) rfl ?_
 refine RL.val (Wanted.free rfl) (V.fieldAddr rfl rfl fo84_0) rfl ?_
 refine RL.val (Wanted.free rfl) (V.load rfl on82 rfl pickX rfl) rfl ?_
 refine RL.val (Wanted.free rfl) (V.bin rfl rfl rfl (B.add64 (y := 1))) rfl ?_
 refine RL.val (Wanted.free rfl) (V.buildS [(0, _)] rfl bs84 (by exact ⟨rfl, ⟨_, rfl, rfl⟩, trivial⟩) rfl) rfl ?_
 refine RL.ent (Lgm.ent (b := b) (db := db) (g := g) (da := da) (dn := dn) (dc := dc) (ra := ra) (rn := rn) (rc := rc) (by repeat (first | exact Ent.refl _ | (apply Ent.cons; (· repeat (first | exact Pick.here | (refine Pick.sl ?_; (· repeat (first | exact List.Mem.head _ | assumption | apply List.Mem.tail))) | apply Pick.there))) | (refine Ent.trans (Ent.drop _ _) ?_)))) ?_
 refine RL.eff (Wanted.free rfl) (E.call rfl go46 rfl (lPut_ok hg (L1 := Dsk db D :: L2) pickX hD (by omega) Pick.here (g.turn + 1) 0)) rfl ?_
 rintro _ _ ⟨rfl, rfl⟩
 refine RL.val (Wanted.free rfl) (V.assign rfl rfl) rfl ?_
 refine RL.nil ?_
 refine SG.seq ?_
 refine SG.region ?_
 refine RL.val (Wanted.free rfl) (V.move rfl rfl) rfl ?_
 refine RL.cmp (Wanted.free rfl) (V.bin rfl rfl rfl B.neq) rfl (fun h13 => ?_) (fun h13 => ?_)
 ·
  have hpe := h13
  have hgl : putL g D (g.turn + 1) 0 = g := if_neg hpe
  refine RL.nil ?_
  refine SG.cond_true rfl ?_
  refine SG.seq ?_
  refine SG.region ?_
  refine RL.val (Wanted.free rfl) (V.move rfl rfl) rfl ?_
  refine RL.val (Wanted.free rfl) (V.assign rfl rfl) rfl ?_
  refine RL.nil ?_
  refine SG.retE (Ret.r1 Try.func22 rfl (.tmp rfl)) ?_ ⟨rfl, rfl⟩
  rw [resetL_err hpe, hgl]
  exact entX
 ·
  have hpe : (putE D g.f (g.turn + 1) 0) = 0 := by omega
  refine RL.nil ?_
  refine SG.cond_false rfl ?_
  refine SG.skip ?_
  refine SG.seq ?_
  rw [putL_ok hpe]
  refine SG.openLg (b := b) (db := db) (g := { g with turn := g.turn + 1, size := 0 }) pickX fun da dn dc ra rn rc => ?_
  refine SG.region ?_
  refine RL.val (Wanted.free rfl) (V.move rfl rfl) rfl ?_
  refine RL.val (Wanted.free rfl) (V.move rfl rfl) rfl ?_
  refine RL.val (Wanted.free rfl) (V.move rfl rfl) rfl ?_
  refine RL.val (Wanted.free rfl) (V.move rfl rfl) rfl ?_
  refine RL.val (Wanted.free rfl) (V.nilCheck rfl rfl) rfl ?_
  refine RL.val (Wanted.free rfl) (V.fieldAddr rfl rfl fo86_4) rfl ?_
  refine RL.eff (Wanted.free rfl) (E.store1 rfl rfl rfl rfl rfl sz35 pickX rfl) rfl ?_
  rintro _ _ rfl
  refine RL.val (Wanted.free rfl) (V.nilCheck rfl rfl) rfl ?_
  refine RL.val (Wanted.free rfl) (V.fieldAddr rfl rfl fo86_5) rfl ?_
  refine RL.eff (Wanted.free rfl) (E.store1 rfl rfl rfl rfl rfl sz39 pickX rfl) rfl ?_
  rintro _ _ rfl
  refine RL.val (Wanted.free rfl) (V.nilCheck rfl rfl) rfl ?_
  refine RL.val (Wanted.free rfl) (V.fieldAddr rfl rfl fo86_6) rfl ?_
  refine RL.eff (Wanted.free rfl) (E.store1 rfl rfl rfl rfl rfl sz3 pickX rfl) rfl ?_
  rintro _ _ rfl
  refine RL.val (Wanted.free rfl) (V.nilCheck rfl rfl) rfl ?_
  refine RL.val (Wanted.free rfl) (V.fieldAddr rfl rfl fo86_7) rfl ?_
  refine RL.eff (Wanted.free rfl) (E.store1 rfl rfl rfl rfl rfl sz3 pickX rfl) rfl ?_
  rintro _ _ rfl
  refine RL.nil ?_
  refine SG.seq ?_
  refine SG.region ?_
  refine RL.val (Wanted.free rfl) (V.assign rfl rfl) rfl ?_
  refine RL.nil ?_
  refine SG.ent (Buf.nil (T := R8) (e := 5)) ?_
  refine SG.ent (Buf.nil (T := Rep.slice R8) (e := 35)) ?_
  refine SG.retE (Ret.r1 Try.func22 rfl (.tmp rfl)) ?_ ⟨by rw [hpe], rfl⟩
  rw [resetL_ok hpe]
  refine Lgm.ent (da := none) (dn := 0) (dc := 0) (ra := none) (rn := 0) (rc := 0) ?_
  exact entX

end Go.Proofs.Ytnbjonijlkjclaa
