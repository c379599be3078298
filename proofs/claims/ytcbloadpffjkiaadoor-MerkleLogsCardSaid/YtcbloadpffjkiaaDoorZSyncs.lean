/- Sync. -/
import Derived.Test.YtcbloadpffjkiaaDoorZLogs1
namespace Go.Proofs.YtcbloadpffjkiaaDoor
open Go.Wk Go.Wl Go.Dsk

set_option maxRecDepth 100000 in
set_option maxHeartbeats 1000000 in
theorem lSync_ok {κ : World} {L : List Assn} {L1 : List Assn} {b db : Nat} {g : Lg} (hg : LgOk g) (hp : Pick (Lgm b db g) L L1) {L2 : List Assn} {D : Dk} {m0 : Nat} (hD : D.ok m0) (hm1 : 1 ≤ m0) (hm0 : m0 ≤ 100000) (hd : Pick (Dsk db D) L1 L2) :
    Ctr Tryd.prog 39 #[ptr b 0] κ L (fun v M => v = vI (syncR g D).2.2 ∧ M = Lgm b db (syncR g D).1 :: Dsk db (syncR g D).2.1 :: L2) := by
 refine Ctr.enter (vs := [ptr b 0]) (m := 100) Tryd.func39 rfl rfl rfl ?_
 refine SG.openLg hp fun da dn dc ra rn rc => ?_
 have hgf0 := hg.f0
 have hgf1 := hg.f1
 have hgn0 := hg.n0
 have hgn1 := hg.n1
 have hgd := hg.d
 have hgr := hg.r
 have hgu0 := hg.u0
 have hgu1 := hg.u1
 have hgs0 := hg.s0
 have hgs1 := hg.s1
 refine SG.ent (Ent.trans (Ent.frame _ (Ent.frame _ (Ent.frame _ hd))) (Ent.refl _)) ?_
 refine SG.buf (T := R8) (a := da) pickX fun hdn hdc _ => ?_
 refine SG.buf (T := Rep.slice R8) (a := ra) pickX fun hrn _ _ => ?_
 have hgz := hg.z
 obtain ⟨q0, hq0⟩ : ∃ q0, g.size.toNat / 64 = q0 := ⟨_, rfl⟩
 obtain ⟨cn, hcn⟩ : ∃ cn, wcnt g = cn := ⟨_, rfl⟩
 have hcn2 : cn = (g.data.length + 63) / 64 - q0 := by rw [← hcn, ← hq0]; rfl
 have hwl : wl g D = wloop g.f g.data D q0 cn := by rw [← hcn, ← hq0]; rfl
 refine SG.seq ?_
 refine SG.region ?_
 refine RL.val (Wanted.free rfl) (V.assign rfl rfl) rfl ?_
 refine RL.nil ?_
 refine SG.seq ?_
 refine SG.seq ?_
 refine SG.region ?_
 refine RL.val (Wanted.free rfl) (V.move rfl rfl) rfl ?_
 refine RL.val (Wanted.free rfl) (V.nilCheck rfl rfl) rfl ?_
 refine RL.val (Wanted.free rfl) (V.fieldAddr rfl rfl fo103_0) rfl ?_
 refine RL.val (Wanted.free rfl) (V.load rfl on55 rfl pickX rfl) rfl ?_
 refine RL.eff (Wanted.free rfl) (E.call rfl go35 rfl (dOn_ok hD (b := db) pickX)) rfl ?_
 rintro _ _ ⟨rfl, rfl⟩
 refine RL.val (Wanted.free rfl) (V.not rfl rfl) rfl ?_
 refine RL.nil ?_
 refine SG.cond rfl (fun h7 => ?_) (fun h7 => ?_)
 ·
  have hoff : D.off = true := by simpa using h7
  rw [syncR_off hoff]
  refine SG.seq ?_
  refine SG.region ?_
  refine RL.val (Wanted.free rfl) (V.assign rfl rfl) rfl ?_
  refine RL.nil ?_
  refine SG.retE (Ret.r1 Tryd.func39 rfl (.tmp rfl)) ?_ ⟨rfl, rfl⟩
  refine Lgm.ent (da := da) (dn := dn) (dc := dc) (ra := ra) (rn := rn) (rc := rc) ?_
  exact entX
 ·
  have hoff : D.off = false := by simpa using h7
  refine SG.skip ?_
  refine SG.seq ?_
  refine SG.seq ?_
  refine SG.drawL 10 10 wide rfl rfl ?_
  refine RH.val 0 rfl krX krX krX krX (Wanted.free rfl) (V.move rfl rfl) rfl ?_
  refine RH.val 1 rfl krX krX krX krX (Wanted.free rfl) (V.nilCheck rfl rfl) rfl ?_
  refine RH.val 2 rfl krX krX krX krX (Wanted.free rfl) (V.fieldAddr rfl rfl fo103_7) rfl ?_
  refine RH.val 3 rfl krX krX krX krX (Wanted.free rfl) (V.load rfl on3 rfl pickX rfl) rfl ?_
  refine RH.val 4 rfl krX krX krX krX (Wanted.free rfl) (V.move rfl rfl) rfl ?_
  refine RH.val 5 rfl krX krX krX krX (Wanted.free rfl) (V.nilCheck rfl rfl) rfl ?_
  refine RH.val 6 rfl krX krX krX krX (Wanted.free rfl) (V.fieldAddr rfl rfl fo103_5) rfl ?_
  refine RH.val 7 rfl krX krX krX krX (Wanted.free rfl) (V.load rfl on36 rfl pickX rfl) rfl ?_
  refine RH.val 8 rfl krX krX krX krX (Wanted.free rfl) (V.len rfl rfl el36.under rfl) rfl ?_
  refine RH.cmp 9 rfl krX krX krX krX (Wanted.free rfl) (V.bin rfl rfl rfl B.eql) rfl (fun h18 => ?_) (fun h18 => ?_)
  ·
   have hns : g.synced = g.recs.length := by omega
   rw [syncR_none hoff hns]
   refine RH.done krX ?_
   refine SG.cond_true rfl ?_
   refine SG.seq ?_
   refine SG.region ?_
   refine RL.val (Wanted.free rfl) (V.assign rfl rfl) rfl ?_
   refine RL.nil ?_
   refine SG.retE (Ret.r1 Tryd.func39 rfl (.tmp rfl)) ?_ ⟨rfl, rfl⟩
   refine Lgm.ent (da := da) (dn := dn) (dc := dc) (ra := ra) (rn := rn) (rc := rc) ?_
   exact entX
  ·
   have hns : ¬ g.synced = g.recs.length := by omega
   refine RH.done krX ?_
   refine SG.cond_false rfl ?_
   refine SG.skip ?_
   refine SG.seq ?_
   refine SG.seq ?_
   refine SG.region ?_
   refine RL.val (Wanted.free rfl) (V.move rfl rfl) rfl ?_
   refine RL.val (Wanted.free rfl) (V.nilCheck rfl rfl) rfl ?_
   refine RL.val (Wanted.free rfl) (V.fieldAddr rfl rfl fo103_3) rfl ?_
   refine RL.val (Wanted.free rfl) (V.fieldAddr rfl rfl fo101_1) rfl ?_
   refine RL.val (Wanted.free rfl) (V.load rfl on99 rfl pickX rfl) rfl ?_
   refine RL.val (Wanted.free rfl) (V.toI rfl ⟨_, ui99⟩ ui3 rfl (by omega) (by omega)) rfl ?_
   refine RL.val (Wanted.free rfl) (V.bin rfl rfl rfl (B.quoI (by omega) (by omega) (by omega))) rfl ?_
   refine RL.val (Wanted.free rfl) (V.bin rfl rfl rfl (B.mulI (by omega) (by omega))) rfl ?_
   rw [show ((g.size.toNat : Int) / 64 * 64 : Int) = ((64 * q0 : Nat) : Int) from by omega]
   refine RL.val (Wanted.free rfl) (V.assign rfl rfl) rfl ?_
   refine RL.nil ?_
   refine SG.block ?_
   refine SG.weaken (SG.loop2 (fun m9 al M => ∃ (q : Nat) (Dq : Dk), q0 ≤ q ∧ q ≤ max q0 ((g.data.length + 63) / 64) ∧ Dq.ok (m0 + (q - q0)) ∧ wloop g.f g.data Dq q (cn - (q - q0)) = wloop g.f g.data D q0 cn ∧ m9 = cn - (q - q0) ∧ al = [(0, ptr b 0), (3, vI ((64 * q : Nat) : Int))] ∧ M = Blk b 103 (lgc db g (.slice da dn dc) (.slice ra rn rc)) :: Buf R8 5 da dn dc g.data :: Buf (Rep.slice R8) 62 ra rn rc g.recs :: Dsk db Dq :: L2) (m0 := _) ⟨q0, D, by omega, by omega, by simpa using hD, by rw [Nat.sub_self, Nat.sub_zero], rfl, rfl, rfl⟩ ?_) ?_ ?_
   rotate_left
   ·
    repeat (first | exact EnvLe.nil _ | refine EnvLe.cons rfl ?_)
   ·
    exact entX
   rintro _ _ _ ⟨q, Dq, hq1, hq2, hDq, hst, rfl, rfl, rfl⟩ ih0
   refine SG.seq ?_
   refine SG.seq ?_
   refine SG.region ?_
   refine RL.val (Wanted.free rfl) (V.move rfl rfl) rfl ?_
   refine RL.val (Wanted.free rfl) (V.move rfl rfl) rfl ?_
   refine RL.val (Wanted.free rfl) (V.nilCheck rfl rfl) rfl ?_
   refine RL.val (Wanted.free rfl) (V.fieldAddr rfl rfl fo103_4) rfl ?_
   refine RL.val (Wanted.free rfl) (V.load rfl on62 rfl pickX rfl) rfl ?_
   refine RL.val (Wanted.free rfl) (V.len rfl rfl el62.under rfl) rfl ?_
   refine RL.cmp (Wanted.free rfl) (V.bin rfl rfl rfl B.lss) rfl (fun h35 => ?_) (fun h35 => ?_)
   ·
    refine RL.nil ?_
    refine SG.cond_true rfl ?_
    refine SG.skip ?_
    refine SG.seq ?_
    refine SG.block ?_
    refine SG.seq ?_
    have hQ : q < (g.data.length + 63) / 64 := by omega
    refine SG.region ?_
    refine RL.val (Wanted.free rfl) (V.move rfl rfl) rfl ?_
    refine RL.val (Wanted.free rfl) (V.nilCheck rfl rfl) rfl ?_
    refine RL.val (Wanted.free rfl) (V.fieldAddr rfl rfl fo103_1) rfl ?_
    refine RL.val (Wanted.free rfl) (V.load rfl on3 rfl pickX rfl) rfl ?_
    refine RL.val (Wanted.free rfl) (V.bin rfl rfl rfl (B.addI (by omega) (by omega))) rfl ?_
    refine RL.val (Wanted.free rfl) (V.move rfl rfl) rfl ?_
    refine RL.val (Wanted.free rfl) (V.bin rfl rfl rfl (B.quoI (by omega) (by omega) (by omega))) rfl ?_
    refine RL.val (Wanted.free rfl) (V.bin rfl rfl rfl (B.addI (by omega) (by omega))) rfl ?_
    rw [show g.f + 2 + ((64 * q : Nat) : Int) / 64 = g.f + 2 + (q : Int) from by omega]
    refine RL.val (Wanted.free rfl) (V.assign rfl rfl) rfl ?_
    refine RL.nil ?_
    refine SG.seq ?_
    refine SG.drawN 22 22 (Blk b 103 (lgc db g (.slice da dn dc) (.slice ra rn rc)) :: Buf R8 5 da dn dc g.data :: Buf (Rep.slice R8) 62 ra rn rc g.recs :: L2) wide rfl rfl (by repeat (first | exact Ent.refl _ | (apply Ent.cons; (· repeat (first | exact Pick.here | (refine Pick.sl ?_; (· repeat (first | exact List.Mem.head _ | assumption | apply List.Mem.tail))) | apply Pick.there))) | (refine Ent.trans (Ent.drop _ _) ?_))) ?_
    refine RH.val 0 rfl krX krX krX krX (Wanted.free rfl) (V.move rfl rfl) rfl ?_
    refine RH.val 1 rfl krX krX krX krX (Wanted.free rfl) (V.nilCheck rfl rfl) rfl ?_
    refine RH.val 2 rfl krX krX krX krX (Wanted.free rfl) (V.fieldAddr rfl rfl fo103_0) rfl ?_
    refine RH.val 3 rfl krX krX krX krX (Wanted.free rfl) (V.load rfl on55 rfl pickX rfl) rfl ?_
    refine RH.val 4 rfl krX krX krX krX (Wanted.free rfl) (V.move rfl rfl) rfl ?_
    refine RH.val 5 rfl krX krX krX krX (Wanted.free rfl) (V.move rfl rfl) rfl ?_
    refine RH.val 6 rfl krX krX krX krX (Wanted.free rfl) (V.nilCheck rfl rfl) rfl ?_
    refine RH.val 7 rfl krX krX krX krX (Wanted.free rfl) (V.fieldAddr rfl rfl fo103_4) rfl ?_
    refine RH.val 8 rfl krX krX krX krX (Wanted.free rfl) (V.load rfl on62 rfl pickX rfl) rfl ?_
    refine RH.val 9 rfl krX krX krX krX (Wanted.free rfl) (V.move rfl rfl) rfl ?_
    refine RH.val 10 rfl krX krX krX krX (Wanted.free rfl) (V.move rfl rfl) rfl ?_
    refine RH.val 11 rfl krX krX krX krX (Wanted.free rfl) (V.bin rfl rfl rfl (B.addI (by omega) (by omega))) rfl ?_
    refine RH.val 12 rfl krX krX krX krX (Wanted.free rfl) (V.move rfl rfl) rfl ?_
    refine RH.val 13 rfl krX krX krX krX (Wanted.free rfl) (V.nilCheck rfl rfl) rfl ?_
    refine RH.val 14 rfl krX krX krX krX (Wanted.free rfl) (V.fieldAddr rfl rfl fo103_4) rfl ?_
    refine RH.val 15 rfl krX krX krX krX (Wanted.free rfl) (V.load rfl on62 rfl pickX rfl) rfl ?_
    refine RH.val 16 rfl krX krX krX krX (Wanted.free rfl) (V.len rfl rfl el62.under rfl) rfl ?_
    refine RH.val 17 rfl krX krX krX krX (Wanted.free rfl) (V.min rfl rfl rfl rfl) rfl ?_
    obtain ⟨hi, hhi, hhi2⟩ : ∃ h : Nat, (if (dn : Int) < ((64 * q : Nat) : Int) + 64 then (dn : Int) else ((64 * q : Nat) : Int) + 64) = (h : Int) ∧ h = min (64 * q + 64) g.data.length := ⟨min (64 * q + 64) g.data.length, by split <;> omega, rfl⟩
    rw [hhi]
    refine RH.val 18 rfl krX krX krX krX (Wanted.free rfl) (V.slice (T := R8) rfl el62.slice rfl ⟨_, _, rfl, (by first | rfl | omega)⟩ ⟨_, _, rfl, (by first | rfl | omega)⟩ (by omega) (by omega)) rfl ?_
    refine RH.one (i := 19) krX ?_
    refine RHone.eff rfl (Wanted.free rfl) (E.call rfl go65 rfl (sector_ok (l := chunkAt g.data q) (by rw [← chunkAt_eq (by omega) hhi2]; exact Src.bufCut (m := dn) pickX (by omega) (by omega)) (chunkAt_len _ _))) rfl ?_
    rintro _ _ ⟨a65, c65, rfl, rfl⟩
    refine ⟨.inr entX, ?_⟩
    refine RH.publish (T := R8) (a := a65) Pick.here ?_
    refine RH.one (i := 20) krX ?_
    refine RHone.eff rfl (Wanted.free rfl) (E.call rfl go64 rfl (dWrite_ok hDq (b := db) pickX (g.f + 2 + q) (s := sec (chunkAt g.data q)) memX (by omega))) rfl ?_
    rintro _ _ ⟨rfl, rfl⟩
    refine ⟨.inr entX, ?_⟩
    refine RH.cmp 21 rfl krX krX krX krX (Wanted.free rfl) (V.bin rfl rfl rfl B.neq) rfl (fun h66 => ?_) (fun h66 => ?_)
    ·
     have hwe := h66
     have hw1 : wl g D = (Dq, false) := by rw [hwl, ← hst, show cn - (q - q0) = (cn - (q + 1 - q0)) + 1 from by omega, wloop, if_pos hwe]
     rw [syncR_w hoff hns hw1, writeE_ne hwe]
     refine RH.done krX ?_
     refine SG.cond_true rfl ?_
     refine SG.seq ?_
     refine SG.region ?_
     refine RL.val (Wanted.free rfl) (V.assign rfl rfl) rfl ?_
     refine RL.nil ?_
     refine SG.retE (Ret.r1 Tryd.func39 rfl (.tmp rfl)) ?_ ⟨rfl, rfl⟩
     refine Lgm.ent (da := da) (dn := dn) (dc := dc) (ra := ra) (rn := rn) (rc := rc) ?_
     exact entX
    ·
     have hwe := h66
     have hst2 : wloop g.f g.data (Dq.write (g.f + 2 + q) (sec (chunkAt g.data q))) (q + 1) (cn - (q + 1 - q0)) = wloop g.f g.data D q0 cn := by rw [← hst, show cn - (q - q0) = (cn - (q + 1 - q0)) + 1 from by omega, wloop, if_neg hwe]
     refine RH.done krX ?_
     refine SG.cond_false rfl ?_
     refine SG.skip ?_
     refine SG.inBlock ?_
     refine SG.region ?_
     refine RL.val (Wanted.free rfl) (V.move rfl rfl) rfl ?_
     refine RL.val (Wanted.free rfl) (V.bin rfl rfl rfl (B.addI (by omega) (by omega))) rfl ?_
     refine RL.val (Wanted.free rfl) (V.assign rfl rfl) rfl ?_
     refine RL.nil ?_
     refine SG.weaken (ih0 _ _ _ ?_ ⟨q + 1, _, by omega, by omega, by have := hDq.write (g.f + 2 + q) (sec (chunkAt g.data q)); rw [show m0 + (q + 1 - q0) = m0 + (q - q0) + 1 from by omega]; exact this, hst2, rfl, rfl, rfl⟩) ?_ ?_
     ·
      omega
     ·
      repeat (first | exact EnvLe.nil _ | refine EnvLe.cons rfl ?_)
     ·
      exact entX
   ·
    refine RL.nil ?_
    refine SG.cond_false rfl ?_
    refine SG.exit rfl ?_
    refine SG.seq ?_
    refine SG.seq ?_
    have hw2 : wl g D = (Dq, true) := by rw [hwl, ← hst, show cn - (q - q0) = 0 from by omega]; rfl
    refine SG.drawN 24 24 (L2) wide rfl rfl (by repeat (first | exact Ent.refl _ | (apply Ent.cons; (· repeat (first | exact Pick.here | (refine Pick.sl ?_; (· repeat (first | exact List.Mem.head _ | assumption | apply List.Mem.tail))) | apply Pick.there))) | (refine Ent.trans (Ent.drop _ _) ?_))) ?_
    refine RH.val 0 rfl krX krX krX krX (Wanted.free rfl) (V.move rfl rfl) rfl ?_
    refine RH.val 1 rfl krX krX krX krX (Wanted.free rfl) (V.nilCheck rfl rfl) rfl ?_
    refine RH.val 2 rfl krX krX krX krX (Wanted.free rfl) (V.fieldAddr rfl rfl fo103_0) rfl ?_
    refine RH.one (i := 3) krX ?_
    refine RHone.eff rfl (Wanted.free rfl) (E.val (V.load rfl on55 rfl pickX rfl)) rfl ?_
    rintro _ _ ⟨rfl, rfl⟩
    refine ⟨.inr entX, ?_⟩
    refine RH.one (i := 4) krX ?_
    refine RHone.eff rfl (Wanted.free rfl) (E.call rfl go66 rfl (dFlush_ok hDq (b := db) pickX (by omega))) rfl ?_
    rintro _ _ ⟨rfl, rfl⟩
    refine ⟨.inr entX, ?_⟩
    refine RH.cmp 5 rfl krX krX krX krX (Wanted.free rfl) (V.bin rfl rfl rfl B.neq) rfl (fun h76 => ?_) (fun h76 => ?_)
    ·
     rw [syncR_f hoff hns hw2 h76]
     refine RH.val 6 rfl krX krX krX krX (Wanted.free rfl) (V.move rfl rfl) rfl ?_
     refine RH.skip 7 rfl krX krX krX krX (Wanted.no rfl rfl rfl rfl rfl) rfl ?_
     refine RH.skip 8 rfl krX krX krX krX (Wanted.no rfl rfl rfl rfl rfl) rfl ?_
     refine RH.skip 9 rfl krX krX krX krX (Wanted.no rfl rfl rfl rfl rfl) rfl ?_
     refine RH.skip 10 rfl krX krX krX krX (Wanted.no rfl rfl rfl rfl rfl) rfl ?_
     refine RH.skip 11 rfl krX krX krX krX (Wanted.no rfl rfl rfl rfl rfl) rfl ?_
     refine RH.skip 12 rfl krX krX krX krX (Wanted.no rfl rfl rfl rfl rfl) rfl ?_
     refine RH.skip 13 rfl krX krX krX krX (Wanted.no rfl rfl rfl rfl rfl) rfl ?_
     refine RH.skip 14 rfl krX krX krX krX (Wanted.no rfl rfl rfl rfl rfl) rfl ?_
     refine RH.skip 15 rfl krX krX krX krX (Wanted.no rfl rfl rfl rfl rfl) rfl ?_
     refine RH.skip 16 rfl krX krX krX krX (Wanted.no rfl rfl rfl rfl rfl) rfl ?_
     refine RH.skip 17 rfl krX krX krX krX (Wanted.no rfl rfl rfl rfl rfl) rfl ?_
     refine RH.skip 18 rfl krX krX krX krX (Wanted.no rfl rfl rfl rfl rfl) rfl ?_
     refine RH.skip 19 rfl krX krX krX krX (Wanted.no rfl rfl rfl rfl rfl) rfl ?_
     refine RH.skip 20 rfl krX krX krX krX (Wanted.no rfl rfl rfl rfl rfl) rfl ?_
     refine RH.skip 21 rfl krX krX krX krX (Wanted.no rfl rfl rfl rfl rfl) rfl ?_
     refine RH.skip 22 rfl krX krX krX krX (Wanted.no rfl rfl rfl rfl rfl) rfl ?_
     refine RH.pure 23 rfl krX krX krX krX (Wanted.free rfl) (V.pick_true rfl rfl rfl) rfl ?_
     refine RH.done krX ?_
     refine SG.cond_true rfl ?_
     refine SG.seq ?_
     refine SG.region ?_
     refine RL.val (Wanted.free rfl) (V.assign rfl rfl) rfl ?_
     refine RL.nil ?_
     refine SG.retE (Ret.r1 Tryd.func39 rfl (.tmp rfl)) ?_ ⟨rfl, rfl⟩
     refine Lgm.ent (da := da) (dn := dn) (dc := dc) (ra := ra) (rn := rn) (rc := rc) ?_
     exact entX
    ·
     have hfe := h76
     refine RH.val 6 rfl krX krX krX krX (Wanted.free rfl) (V.move rfl rfl) rfl ?_
     refine RH.val 7 rfl krX krX krX krX (Wanted.yes rfl rfl rfl rfl) (V.move rfl rfl) rfl ?_
     refine RH.val 8 rfl krX krX krX krX (Wanted.yes rfl rfl rfl rfl) (V.move rfl rfl) rfl ?_
     refine RH.val 9 rfl krX krX krX krX (Wanted.yes rfl rfl rfl rfl) (V.nilCheck rfl rfl) rfl ?_
     refine RH.val 10 rfl krX krX krX krX (Wanted.yes rfl rfl rfl rfl) (V.fieldAddr rfl rfl fo103_3) rfl ?_
     refine RH.val 11 rfl krX krX krX krX (Wanted.yes rfl rfl rfl rfl) (V.fieldAddr rfl rfl fo101_0) rfl ?_
     refine RH.val 14 rfl krX krX krX krX (Wanted.yes rfl rfl rfl rfl) (V.move rfl rfl) rfl ?_
     refine RH.val 15 rfl krX krX krX krX (Wanted.yes rfl rfl rfl rfl) (V.nilCheck rfl rfl) rfl ?_
     refine RH.val 16 rfl krX krX krX krX (Wanted.yes rfl rfl rfl rfl) (V.fieldAddr rfl rfl fo103_4) rfl ?_
     refine RH.two (i := 12) (j := 17) krX ?_ ?_
     ·
      refine RHone.eff rfl (Wanted.yes rfl rfl rfl rfl) (E.val (V.load rfl on99 rfl pickX rfl)) rfl ?_
      rintro _ _ ⟨rfl, rfl⟩
      refine ⟨.inr entX, ?_⟩
      refine RH.val 13 rfl krX krX krX krX (Wanted.yes rfl rfl rfl rfl) (V.bin rfl rfl rfl (B.add64 (y := 1))) rfl ?_
      refine RH.one (i := 17) krX ?_
      refine RHone.eff rfl (Wanted.yes rfl rfl rfl rfl) (E.val (V.load rfl on62 rfl pickX rfl)) rfl ?_
      rintro _ _ ⟨rfl, rfl⟩
      refine ⟨.inr entX, ?_⟩
      refine RH.val 18 rfl krX krX krX krX (Wanted.yes rfl rfl rfl rfl) (V.len rfl rfl el62.under rfl) rfl ?_
      refine RH.val 19 rfl krX krX krX krX (Wanted.yes rfl rfl rfl rfl) (V.to64 rfl ⟨_, ui3⟩ ui99 rfl) rfl ?_
      rw [len64w, show UInt64.ofNat dn = syS g from by rw [← hdn]; rfl]
      refine RH.val 20 rfl krX krX krX krX (Wanted.yes rfl rfl rfl rfl) (V.buildS [(0, _), (1, _)] rfl bs101 (by exact ⟨rfl, ⟨_, rfl, rfl⟩, ⟨rfl, ⟨_, rfl, rfl⟩, trivial⟩⟩) rfl) rfl ?_
      refine RH.ent (Lgm.ent (b := b) (db := db) (g := g) (da := da) (dn := dn) (dc := dc) (ra := ra) (rn := rn) (rc := rc) (by repeat (first | exact Ent.refl _ | (apply Ent.cons; (· repeat (first | exact Pick.here | (refine Pick.sl ?_; (· repeat (first | exact List.Mem.head _ | assumption | apply List.Mem.tail))) | apply Pick.there))) | (refine Ent.trans (Ent.drop _ _) ?_)))) ?_
      refine RH.one (i := 21) krX ?_
      refine RHone.eff rfl (Wanted.yes rfl rfl rfl rfl) (E.call rfl go67 rfl (lPut_ok hg (D := Dq.flush) (L1 := Dsk db Dq.flush :: L2) pickX (hDq.flush (by omega)) (by omega) Pick.here (syT g) (syS g))) rfl ?_
      rintro _ _ ⟨rfl, rfl⟩
      refine ⟨.inr entX, ?_⟩
      refine RH.cmp 22 rfl krX krX krX krX (Wanted.yes rfl rfl rfl rfl) (V.bin rfl rfl rfl B.neq) rfl (fun h95 => ?_) (fun h95 => ?_)
      ·
       rw [syncR_p hoff hns hw2 hfe h95, show putL g Dq.flush (syT g) (syS g) = g from if_neg h95]
       refine RH.pure 23 rfl krX krX krX krX (Wanted.free rfl) (V.pick_false rfl rfl rfl) rfl ?_
       refine RH.done krX ?_
       refine SG.cond_true rfl ?_
       refine SG.seq ?_
       refine SG.region ?_
       refine RL.val (Wanted.free rfl) (V.assign rfl rfl) rfl ?_
       refine RL.nil ?_
       refine SG.retE (Ret.r1 Tryd.func39 rfl (.tmp rfl)) ?_ ⟨rfl, rfl⟩
       exact entX
      ·
       have hpe : putE Dq.flush g.f (syT g) (syS g) = 0 := by omega
       rw [syncR_ok hoff hns hw2 hfe hpe, putL_ok hpe]
       refine RH.pure 23 rfl krX krX krX krX (Wanted.free rfl) (V.pick_false rfl rfl rfl) rfl ?_
       refine RH.done krX ?_
       refine SG.cond_false rfl ?_
       refine SG.skip ?_
       refine SG.seq ?_
       refine SG.openLg (b := b) (db := db) (g := { g with turn := syT g, size := syS g }) pickX fun da dn dc ra rn rc => ?_
       refine SG.buf (T := Rep.slice R8) (a := ra) pickX fun hrn2 _ _ => ?_
       have hrn3 : g.recs.length = rn := hrn2
       refine SG.region ?_
       refine RL.val (Wanted.free rfl) (V.move rfl rfl) rfl ?_
       refine RL.val (Wanted.free rfl) (V.move rfl rfl) rfl ?_
       refine RL.val (Wanted.free rfl) (V.nilCheck rfl rfl) rfl ?_
       refine RL.val (Wanted.free rfl) (V.fieldAddr rfl rfl fo103_5) rfl ?_
       refine RL.val (Wanted.free rfl) (V.load rfl on36 rfl pickX rfl) rfl ?_
       refine RL.val (Wanted.free rfl) (V.len rfl rfl el36.under rfl) rfl ?_
       rw [show (rn : Int) = (g.recs.length : Int) from by omega]
       refine RL.val (Wanted.free rfl) (V.nilCheck rfl rfl) rfl ?_
       refine RL.val (Wanted.free rfl) (V.fieldAddr rfl rfl fo103_7) rfl ?_
       refine RL.eff (Wanted.free rfl) (E.store1 rfl rfl rfl rfl rfl sz3 pickX rfl) rfl ?_
       rintro _ _ rfl
       refine RL.nil ?_
       refine SG.seq ?_
       refine SG.region ?_
       refine RL.val (Wanted.free rfl) (V.assign rfl rfl) rfl ?_
       refine RL.nil ?_
       refine SG.retE (Ret.r1 Tryd.func39 rfl (.tmp rfl)) ?_ ⟨rfl, rfl⟩
       refine Lgm.ent (da := da) (dn := dn) (dc := dc) (ra := ra) (rn := rn) (rc := rc) ?_
       exact entX
     ·
      refine RHone.eff rfl (Wanted.yes rfl rfl rfl rfl) (E.val (V.load rfl on62 rfl pickX rfl)) rfl ?_
      rintro _ _ ⟨rfl, rfl⟩
      refine ⟨.inr entX, ?_⟩
      refine RH.val 18 rfl krX krX krX krX (Wanted.yes rfl rfl rfl rfl) (V.len rfl rfl el62.under rfl) rfl ?_
      refine RH.val 19 rfl krX krX krX krX (Wanted.yes rfl rfl rfl rfl) (V.to64 rfl ⟨_, ui3⟩ ui99 rfl) rfl ?_
      rw [len64w, show UInt64.ofNat dn = syS g from by rw [← hdn]; rfl]
      refine RH.one (i := 12) krX ?_
      refine RHone.eff rfl (Wanted.yes rfl rfl rfl rfl) (E.val (V.load rfl on99 rfl pickX rfl)) rfl ?_
      rintro _ _ ⟨rfl, rfl⟩
      refine ⟨.inr entX, ?_⟩
      refine RH.val 13 rfl krX krX krX krX (Wanted.yes rfl rfl rfl rfl) (V.bin rfl rfl rfl (B.add64 (y := 1))) rfl ?_
      refine RH.val 20 rfl krX krX krX krX (Wanted.yes rfl rfl rfl rfl) (V.buildS [(0, _), (1, _)] rfl bs101 (by exact ⟨rfl, ⟨_, rfl, rfl⟩, ⟨rfl, ⟨_, rfl, rfl⟩, trivial⟩⟩) rfl) rfl ?_
      refine RH.ent (Lgm.ent (b := b) (db := db) (g := g) (da := da) (dn := dn) (dc := dc) (ra := ra) (rn := rn) (rc := rc) (by repeat (first | exact Ent.refl _ | (apply Ent.cons; (· repeat (first | exact Pick.here | (refine Pick.sl ?_; (· repeat (first | exact List.Mem.head _ | assumption | apply List.Mem.tail))) | apply Pick.there))) | (refine Ent.trans (Ent.drop _ _) ?_)))) ?_
      refine RH.one (i := 21) krX ?_
      refine RHone.eff rfl (Wanted.yes rfl rfl rfl rfl) (E.call rfl go67 rfl (lPut_ok hg (D := Dq.flush) (L1 := Dsk db Dq.flush :: L2) pickX (hDq.flush (by omega)) (by omega) Pick.here (syT g) (syS g))) rfl ?_
      rintro _ _ ⟨rfl, rfl⟩
      refine ⟨.inr entX, ?_⟩
      refine RH.cmp 22 rfl krX krX krX krX (Wanted.yes rfl rfl rfl rfl) (V.bin rfl rfl rfl B.neq) rfl (fun h114 => ?_) (fun h114 => ?_)
      ·
       rw [syncR_p hoff hns hw2 hfe h114, show putL g Dq.flush (syT g) (syS g) = g from if_neg h114]
       refine RH.pure 23 rfl krX krX krX krX (Wanted.free rfl) (V.pick_false rfl rfl rfl) rfl ?_
       refine RH.done krX ?_
       refine SG.cond_true rfl ?_
       refine SG.seq ?_
       refine SG.region ?_
       refine RL.val (Wanted.free rfl) (V.assign rfl rfl) rfl ?_
       refine RL.nil ?_
       refine SG.retE (Ret.r1 Tryd.func39 rfl (.tmp rfl)) ?_ ⟨rfl, rfl⟩
       exact entX
      ·
       have hpe : putE Dq.flush g.f (syT g) (syS g) = 0 := by omega
       rw [syncR_ok hoff hns hw2 hfe hpe, putL_ok hpe]
       refine RH.pure 23 rfl krX krX krX krX (Wanted.free rfl) (V.pick_false rfl rfl rfl) rfl ?_
       refine RH.done krX ?_
       refine SG.cond_false rfl ?_
       refine SG.skip ?_
       refine SG.seq ?_
       refine SG.openLg (b := b) (db := db) (g := { g with turn := syT g, size := syS g }) pickX fun da dn dc ra rn rc => ?_
       refine SG.buf (T := Rep.slice R8) (a := ra) pickX fun hrn2 _ _ => ?_
       have hrn3 : g.recs.length = rn := hrn2
       refine SG.region ?_
       refine RL.val (Wanted.free rfl) (V.move rfl rfl) rfl ?_
       refine RL.val (Wanted.free rfl) (V.move rfl rfl) rfl ?_
       refine RL.val (Wanted.free rfl) (V.nilCheck rfl rfl) rfl ?_
       refine RL.val (Wanted.free rfl) (V.fieldAddr rfl rfl fo103_5) rfl ?_
       refine RL.val (Wanted.free rfl) (V.load rfl on36 rfl pickX rfl) rfl ?_
       refine RL.val (Wanted.free rfl) (V.len rfl rfl el36.under rfl) rfl ?_
       rw [show (rn : Int) = (g.recs.length : Int) from by omega]
       refine RL.val (Wanted.free rfl) (V.nilCheck rfl rfl) rfl ?_
       refine RL.val (Wanted.free rfl) (V.fieldAddr rfl rfl fo103_7) rfl ?_
       refine RL.eff (Wanted.free rfl) (E.store1 rfl rfl rfl rfl rfl sz3 pickX rfl) rfl ?_
       rintro _ _ rfl
       refine RL.nil ?_
       refine SG.seq ?_
       refine SG.region ?_
       refine RL.val (Wanted.free rfl) (V.assign rfl rfl) rfl ?_
       refine RL.nil ?_
       refine SG.retE (Ret.r1 Tryd.func39 rfl (.tmp rfl)) ?_ ⟨rfl, rfl⟩
       refine Lgm.ent (da := da) (dn := dn) (dc := dc) (ra := ra) (rn := rn) (rc := rc) ?_
       exact entX

end Go.Proofs.YtcbloadpffjkiaaDoor
