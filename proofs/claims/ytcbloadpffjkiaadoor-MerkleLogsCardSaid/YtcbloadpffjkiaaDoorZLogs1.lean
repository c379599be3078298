/- Logs. -/
import Derived.Test.YtcbloadpffjkiaaDoorZSmall1
namespace Go.Proofs.YtcbloadpffjkiaaDoor
open Go.Wk Go.Wl Go.Dsk

@[reducible] def lgc (db : Nat) (g : Lg) (d r : Value) : List Value := [ptr db 0, vI g.f, vI g.n, v64 g.turn, v64 g.size, d, r, vI g.used, vI g.synced]
/-- A log at block b, over the disk at block db. -/
def Lgm (b db : Nat) (g : Lg) : Assn := Exp (fun (_ : Tri × Tri) => True) fun x => [Blk b 103 (lgc db g (.slice x.1.1 x.1.2.1 x.1.2.2) (.slice x.2.1 x.2.2.1 x.2.2.2)), Buf R8 5 x.1.1 x.1.2.1 x.1.2.2 g.data, Buf (Rep.slice R8) 62 x.2.1 x.2.2.1 x.2.2.2 g.recs]
section
variable {P : Program} {f : FuncId} {n : Nat} {κ : World} {K : Post} {k : List Item} {ops : Array Oper} {rest : List Oper} {L L1 L' : List Assn} {al : List (Nat × Value)} {b db : Nat} {g : Lg}
theorem SG.openLg (hp : Pick (Lgm b db g) L L1) (h : ∀ da dn dc ra rn rc, SG P f n κ K k al (Blk b 103 (lgc db g (.slice da dn dc) (.slice ra rn rc)) :: Buf R8 5 da dn dc g.data :: Buf (Rep.slice R8) 62 ra rn rc g.recs :: L1)) : SG P f n κ K k al L := SG.openExp hp fun _ _ => h _ _ _ _ _ _
theorem Lgm.ent {da ra : Option Addr} {dn dc rn rc : Nat} (h : Ent L' (Blk b 103 (lgc db g (.slice da dn dc) (.slice ra rn rc)) :: Buf R8 5 da dn dc g.data :: Buf (Rep.slice R8) 62 ra rn rc g.recs :: L)) : Ent L' (Lgm b db g :: L) :=
  h.trans (Exp.close (ι := Tri × Tri) (p := fun _ => True) (A := fun x => [Blk b 103 (lgc db g (.slice x.1.1 x.1.2.1 x.1.2.2) (.slice x.2.1 x.2.2.1 x.2.2.2)), Buf R8 5 x.1.1 x.1.2.1 x.1.2.2 g.data, Buf (Rep.slice R8) 62 x.2.1 x.2.2.1 x.2.2.2 g.recs]) ((da, dn, dc), (ra, rn, rc)) trivial)
end
set_option maxRecDepth 100000 in
set_option maxHeartbeats 1000000 in
theorem lRoom_ok {κ : World} {L : List Assn} {L1 : List Assn} {b db : Nat} {g : Lg} (hg : LgOk g) (hp : Pick (Lgm b db g) L L1) :
    Ctr Tryd.prog 68 #[ptr b 0] κ L (fun v M => v = vI (roomV g) ∧ M = Lgm b db g :: L1) := by
 refine Ctr.enter (vs := [ptr b 0]) (m := 17) Tryd.func68 rfl rfl rfl ?_
 refine SG.openLg hp fun da dn dc ra rn rc => ?_
 have hgf0 := hg.f0
 have hgf1 := hg.f1
 have hgn0 := hg.n0
 have hgn1 := hg.n1
 have hgd := hg.d
 have hgr := hg.r
 have hgu0 := hg.u0
 have hgu1 := hg.u1
 have hgs0 := hg.s0
 have hgs1 := hg.s1
 refine SG.seq ?_
 refine SG.region ?_
 refine RL.val (Wanted.free rfl) (V.assign rfl rfl) rfl ?_
 refine RL.nil ?_
 refine SG.seq ?_
 refine SG.drawL 15 15 wide rfl rfl ?_
 refine RH.val 0 rfl krX krX krX krX (Wanted.free rfl) (V.move rfl rfl) rfl ?_
 refine RH.val 1 rfl krX krX krX krX (Wanted.free rfl) (V.nilCheck rfl rfl) rfl ?_
 refine RH.val 2 rfl krX krX krX krX (Wanted.free rfl) (V.fieldAddr rfl rfl fo103_2) rfl ?_
 refine RH.val 3 rfl krX krX krX krX (Wanted.free rfl) (V.load rfl on3 rfl pickX rfl) rfl ?_
 refine RH.val 4 rfl krX krX krX krX (Wanted.free rfl) (V.bin rfl rfl rfl (B.subI (by omega) (by omega))) rfl ?_
 refine RH.val 5 rfl krX krX krX krX (Wanted.free rfl) (V.bin rfl rfl rfl (B.mulI (by omega) (by omega))) rfl ?_
 refine RH.val 6 rfl krX krX krX krX (Wanted.free rfl) (V.move rfl rfl) rfl ?_
 refine RH.val 7 rfl krX krX krX krX (Wanted.free rfl) (V.nilCheck rfl rfl) rfl ?_
 refine RH.val 8 rfl krX krX krX krX (Wanted.free rfl) (V.fieldAddr rfl rfl fo103_6) rfl ?_
 refine RH.val 9 rfl krX krX krX krX (Wanted.free rfl) (V.load rfl on3 rfl pickX rfl) rfl ?_
 refine RH.val 10 rfl krX krX krX krX (Wanted.free rfl) (V.bin rfl rfl rfl (B.subI (by omega) (by omega))) rfl ?_
 refine RH.val 11 rfl krX krX krX krX (Wanted.free rfl) (V.bin rfl rfl rfl (B.subI (by omega) (by omega))) rfl ?_
 refine RH.val 12 rfl krX krX krX krX (Wanted.free rfl) (V.min rfl rfl rfl rfl) rfl ?_
 refine RH.val 13 rfl krX krX krX krX (Wanted.free rfl) (V.max rfl rfl rfl rfl) rfl ?_
 refine RH.val 14 rfl krX krX krX krX (Wanted.free rfl) (V.assign rfl rfl) rfl ?_
 refine RH.done krX ?_
 refine SG.retE (Ret.r1 Tryd.func68 rfl (.tmp rfl)) ?_ ⟨congrArg vI (by unfold roomV; (repeat (split)) <;> omega), rfl⟩
 refine Lgm.ent (da := da) (dn := dn) (dc := dc) (ra := ra) (rn := rn) (rc := rc) ?_
 exact entX

set_option maxRecDepth 100000 in
set_option maxHeartbeats 1000000 in
theorem lPut_ok {κ : World} {L : List Assn} {L1 : List Assn} {b db : Nat} {g : Lg} (hg : LgOk g) (hp : Pick (Lgm b db g) L L1) {L2 : List Assn} {D : Dk} {m0 : Nat} (hD : D.ok m0) (hm0 : m0 ≤ 900000) (hd : Pick (Dsk db D) L1 L2) (t s : UInt64) :
    Ctr Tryd.prog 67 #[ptr b 0, .agg [v64 t, v64 s].toArray] κ L (fun v M => v = vI (putE D g.f t s) ∧ M = Lgm b db (putL g D t s) :: Dsk db (putD D g.f t s) :: L2) := by
 refine Ctr.enter (vs := [ptr b 0, .agg [v64 t, v64 s].toArray]) (m := 47) Tryd.func67 rfl rfl rfl ?_
 refine SG.openLg hp fun da dn dc ra rn rc => ?_
 have hgf0 := hg.f0
 have hgf1 := hg.f1
 have hgn0 := hg.n0
 have hgn1 := hg.n1
 have hgd := hg.d
 have hgr := hg.r
 have hgu0 := hg.u0
 have hgu1 := hg.u1
 have hgs0 := hg.s0
 have hgs1 := hg.s1
 refine SG.ent (Ent.trans (Ent.frame _ (Ent.frame _ (Ent.frame _ hd))) (Ent.refl _)) ?_
 refine SG.seq ?_
 refine SG.region ?_
 refine RL.eff (Wanted.free rfl) (E.box [v64 t, v64 s] rfl rfl rfl) rfl ?_
 rintro _ _ ⟨b3, rfl, rfl⟩
 refine RL.val (Wanted.free rfl) (V.assign rfl rfl) rfl ?_
 refine RL.nil ?_
 refine SG.seq ?_
 refine SG.region ?_
 refine RL.val (Wanted.free rfl) (V.assign rfl rfl) rfl ?_
 refine RL.nil ?_
 refine SG.seq ?_
 refine SG.seq ?_
 refine SG.ent (Buf.nil (T := R8) (e := 5)) ?_
 refine SG.region ?_
 refine RL.val (Wanted.free rfl) (V.move rfl rfl) rfl ?_
 refine RL.nil ?_
 refine SG.block ?_
 refine SG.weaken (SG.loop2 (fun m0 al M => ∃ (i : Nat) (a5 : Option Addr) (c5 : Nat), i ≤ 2 ∧ m0 = 2 - i ∧ al = [(0, ptr b 0), (3, ptr b3 0), (5, .slice a5 (16 * i) c5), (8, vI i)] ∧ M = Buf R8 5 a5 (16 * i) c5 (cps t s i) :: Blk b3 101 [v64 t, v64 s] :: Blk b 103 (lgc db g (.slice da dn dc) (.slice ra rn rc)) :: Buf R8 5 da dn dc g.data :: Buf (Rep.slice R8) 62 ra rn rc g.recs :: Dsk db D :: L2) (m0 := _) ⟨0, none, 0, by omega, rfl, rfl, rfl⟩ ?_) ?_ ?_
 rotate_left
 ·
  repeat (first | exact EnvLe.nil _ | refine EnvLe.cons rfl ?_)
 ·
  exact entX
 rintro _ _ _ ⟨i, a5, c5, hi, rfl, rfl, rfl⟩ ih0
 refine SG.seq ?_
 refine SG.region ?_
 refine RL.cmp (Wanted.free rfl) (V.bin rfl rfl rfl B.lss) rfl (fun h5 => ?_) (fun h5 => ?_)
 ·
  refine RL.nil ?_
  refine SG.seq ?_
  refine SG.cond_true rfl ?_
  refine SG.skip ?_
  refine SG.seq ?_
  refine SG.block ?_
  have hcl := cps_len t s i
  refine SG.drawN 8 8 (Blk b3 101 [v64 t, v64 s] :: Blk b 103 (lgc db g (.slice da dn dc) (.slice ra rn rc)) :: Buf R8 5 da dn dc g.data :: Buf (Rep.slice R8) 62 ra rn rc g.recs :: Dsk db D :: L2) wide rfl rfl (by repeat (first | exact Ent.refl _ | (apply Ent.cons; (· repeat (first | exact Pick.here | (refine Pick.sl ?_; (· repeat (first | exact List.Mem.head _ | assumption | apply List.Mem.tail))) | apply Pick.there))) | (refine Ent.trans (Ent.drop _ _) ?_))) ?_
  refine RH.val 0 rfl krX krX krX krX (Wanted.free rfl) (V.move rfl rfl) rfl ?_
  refine RH.val 1 rfl krX krX krX krX (Wanted.free rfl) (V.fieldAddr rfl rfl fo101_0) rfl ?_
  refine RH.val 2 rfl krX krX krX krX (Wanted.free rfl) (V.load rfl on99 rfl pickX rfl) rfl ?_
  refine RH.val 4 rfl krX krX krX krX (Wanted.free rfl) (V.fieldAddr rfl rfl fo101_1) rfl ?_
  refine RH.val 5 rfl krX krX krX krX (Wanted.free rfl) (V.load rfl on99 rfl pickX rfl) rfl ?_
  refine RH.one (i := 3) krX ?_
  refine RHone.eff rfl (Wanted.free rfl) (E.call rfl go69 rfl (number_ok t (k := 8) pickX (by omega) (by decide))) rfl ?_
  rintro _ _ ⟨a13, c13, rfl, rfl⟩
  refine ⟨.inr entX, ?_⟩
  refine RH.one (i := 6) krX ?_
  refine RHone.eff rfl (Wanted.free rfl) (E.call rfl go69 rfl (number_ok s (k := 8) pickX (by omega) (by decide))) rfl ?_
  rintro _ _ ⟨a16, c16, rfl, rfl⟩
  refine ⟨.inr entX, ?_⟩
  rw [show cps t s i ++ leb 8 t.toNat ++ leb 8 s.toNat = cps t s (i + 1) from rfl]
  rw [show 16 * i + 8 + 8 = 16 * (i + 1) from by omega]
  refine RH.val 7 rfl krX krX krX krX (Wanted.free rfl) (V.assign rfl rfl) rfl ?_
  refine RH.done krX ?_
  refine SG.inBlock ?_
  refine SG.region ?_
  refine RL.val (Wanted.free rfl) (V.bin rfl rfl rfl (B.addI (by omega) (by omega))) rfl ?_
  refine RL.val (Wanted.free rfl) (V.move rfl rfl) rfl ?_
  refine RL.nil ?_
  refine SG.weaken (ih0 _ _ _ ?_ ⟨i + 1, a16, c16, by omega, rfl, rfl, rfl⟩) ?_ ?_
  ·
   omega
  ·
   repeat (first | exact EnvLe.nil _ | refine EnvLe.cons rfl ?_)
  ·
   exact entX
 ·
  refine RL.nil ?_
  refine SG.seq ?_
  refine SG.cond_false rfl ?_
  refine SG.exit rfl ?_
  refine SG.seq ?_
  refine SG.seq ?_
  obtain rfl : i = 2 := by omega
  have hcl := cps_len t s 2
  have htm : (t % 2).toNat < 2 := by rw [UInt64.toNat_mod]; exact Nat.mod_lt _ (by decide)
  refine SG.drawN 17 17 (Blk b3 101 [v64 t, v64 s] :: Blk b 103 (lgc db g (.slice da dn dc) (.slice ra rn rc)) :: Buf R8 5 da dn dc g.data :: Buf (Rep.slice R8) 62 ra rn rc g.recs :: L2) wide rfl rfl (by repeat (first | exact Ent.refl _ | (apply Ent.cons; (· repeat (first | exact Pick.here | (refine Pick.sl ?_; (· repeat (first | exact List.Mem.head _ | assumption | apply List.Mem.tail))) | apply Pick.there))) | (refine Ent.trans (Ent.drop _ _) ?_))) ?_
  refine RH.val 0 rfl krX krX krX krX (Wanted.free rfl) (V.move rfl rfl) rfl ?_
  refine RH.val 1 rfl krX krX krX krX (Wanted.free rfl) (V.nilCheck rfl rfl) rfl ?_
  refine RH.val 2 rfl krX krX krX krX (Wanted.free rfl) (V.fieldAddr rfl rfl fo103_0) rfl ?_
  refine RH.val 3 rfl krX krX krX krX (Wanted.free rfl) (V.load rfl on55 rfl pickX rfl) rfl ?_
  refine RH.val 4 rfl krX krX krX krX (Wanted.free rfl) (V.move rfl rfl) rfl ?_
  refine RH.val 5 rfl krX krX krX krX (Wanted.free rfl) (V.nilCheck rfl rfl) rfl ?_
  refine RH.val 6 rfl krX krX krX krX (Wanted.free rfl) (V.fieldAddr rfl rfl fo103_1) rfl ?_
  refine RH.val 7 rfl krX krX krX krX (Wanted.free rfl) (V.load rfl on3 rfl pickX rfl) rfl ?_
  refine RH.val 8 rfl krX krX krX krX (Wanted.free rfl) (V.fieldAddr rfl rfl fo101_0) rfl ?_
  refine RH.val 9 rfl krX krX krX krX (Wanted.free rfl) (V.load rfl on99 rfl pickX rfl) rfl ?_
  refine RH.val 10 rfl krX krX krX krX (Wanted.free rfl) (V.bin rfl rfl rfl (B.rem64 (y := 2) (by decide))) rfl ?_
  refine RH.val 11 rfl krX krX krX krX (Wanted.free rfl) (V.toI rfl ⟨_, ui99⟩ ui3 rfl (by omega) (by omega)) rfl ?_
  refine RH.val 12 rfl krX krX krX krX (Wanted.free rfl) (V.bin rfl rfl rfl (B.addI (by omega) (by omega))) rfl ?_
  refine RH.val 13 rfl krX krX krX krX (Wanted.free rfl) (V.move rfl rfl) rfl ?_
  refine RH.one (i := 14) krX ?_
  refine RHone.eff rfl (Wanted.free rfl) (E.call rfl go65 rfl (sector_ok (l := cps t s 2) (Src.buf (by decide) pickX) (by omega))) rfl ?_
  rintro _ _ ⟨a32, c32, rfl, rfl⟩
  refine ⟨.inr entX, ?_⟩
  rw [cps_two]
  refine RH.publish (T := R8) (a := a32) Pick.here ?_
  refine RH.one (i := 15) krX ?_
  refine RHone.eff rfl (Wanted.free rfl) (E.call rfl go64 rfl (dWrite_ok hD (b := db) pickX (putK g.f t) (s := putS t s) memX (by omega))) rfl ?_
  rintro _ _ ⟨rfl, rfl⟩
  refine ⟨.inr entX, ?_⟩
  refine RH.val 16 rfl krX krX krX krX (Wanted.free rfl) (V.assign rfl rfl) rfl ?_
  refine RH.done krX ?_
  refine SG.seq ?_
  refine SG.region ?_
  refine RL.val (Wanted.free rfl) (V.move rfl rfl) rfl ?_
  refine RL.cmp (Wanted.free rfl) (V.bin rfl rfl rfl B.neq) rfl (fun h34 => ?_) (fun h34 => ?_)
  ·
   have hpe := put_err1 h34
   rw [writeE_ne h34]
   refine RL.nil ?_
   refine SG.cond_true rfl ?_
   refine SG.seq ?_
   refine SG.region ?_
   refine RL.val (Wanted.free rfl) (V.assign rfl rfl) rfl ?_
   refine RL.nil ?_
   refine SG.retE (Ret.r1 Tryd.func67 rfl (.tmp rfl)) ?_ ⟨by rw [hpe.2], rfl⟩
   rw [hpe.1, putL_err hpe.2]
   refine Lgm.ent (da := da) (dn := dn) (dc := dc) (ra := ra) (rn := rn) (rc := rc) ?_
   exact entX
  ·
   have hnw := h34
   refine RL.nil ?_
   refine SG.cond_false rfl ?_
   refine SG.skip ?_
   refine SG.seq ?_
   refine SG.seq ?_
   refine SG.region ?_
   refine RL.val (Wanted.free rfl) (V.move rfl rfl) rfl ?_
   refine RL.val (Wanted.free rfl) (V.nilCheck rfl rfl) rfl ?_
   refine RL.val (Wanted.free rfl) (V.fieldAddr rfl rfl fo103_0) rfl ?_
   refine RL.val (Wanted.free rfl) (V.load rfl on55 rfl pickX rfl) rfl ?_
   refine RL.eff (Wanted.free rfl) (E.call rfl go66 rfl (dFlush_ok (hD.write _ _) (b := db) pickX (by omega))) rfl ?_
   rintro _ _ ⟨rfl, rfl⟩
   refine RL.val (Wanted.free rfl) (V.assign rfl rfl) rfl ?_
   refine RL.nil ?_
   refine SG.seq ?_
   refine SG.region ?_
   refine RL.val (Wanted.free rfl) (V.move rfl rfl) rfl ?_
   refine RL.cmp (Wanted.free rfl) (V.bin rfl rfl rfl B.neq) rfl (fun h43 => ?_) (fun h43 => ?_)
   ·
    have hpe := put_err2 hnw h43
    refine RL.nil ?_
    refine SG.cond_true rfl ?_
    refine SG.seq ?_
    refine SG.region ?_
    refine RL.val (Wanted.free rfl) (V.assign rfl rfl) rfl ?_
    refine RL.nil ?_
    refine SG.retE (Ret.r1 Tryd.func67 rfl (.tmp rfl)) ?_ ⟨by rw [hpe.2], rfl⟩
    rw [hpe.1, putL_err hpe.2]
    refine Lgm.ent (da := da) (dn := dn) (dc := dc) (ra := ra) (rn := rn) (rc := rc) ?_
    exact entX
   ·
    have hpo := put_okk hnw h43
    refine RL.nil ?_
    refine SG.cond_false rfl ?_
    refine SG.skip ?_
    refine SG.seq ?_
    refine SG.region ?_
    refine RL.val (Wanted.free rfl) (V.move rfl rfl) rfl ?_
    refine RL.val (Wanted.free rfl) (V.loadAgg (us := _) rfl ag101 rfl pickX rfl rfl) rfl ?_
    refine RL.val (Wanted.free rfl) (V.nilCheck rfl rfl) rfl ?_
    refine RL.val (Wanted.free rfl) (V.fieldAddr rfl rfl fo103_3) rfl ?_
    refine RL.eff (Wanted.free rfl) (E.storeAgg rfl rfl rfl rfl sz101 pickX (by first | (simp [Value.oneCell']; done) | (simp [setAt, Value.oneCell']; done)) (by first | (simp; done) | (simp [setAt]; done))) rfl ?_
    rintro _ _ rfl
    refine RL.nil ?_
    refine SG.seq ?_
    refine SG.region ?_
    refine RL.val (Wanted.free rfl) (V.assign rfl rfl) rfl ?_
    refine RL.nil ?_
    refine SG.retE (Ret.r1 Tryd.func67 rfl (.tmp rfl)) ?_ ⟨by rw [hpo.2], rfl⟩
    rw [hpo.1, putL_ok hpo.2]
    refine Lgm.ent (da := da) (dn := dn) (dc := dc) (ra := ra) (rn := rn) (rc := rc) ?_
    exact entX

end Go.Proofs.YtcbloadpffjkiaaDoor
