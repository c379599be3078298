/- The walk of WalFills. -/
import Derived.Test.YtnbjonijlkjclaaWbase2
namespace Go.Proofs.Ytnbjonijlkjclaa
open Go.Wk Go.Wl Go.Dsk

set_option maxRecDepth 100000 in
set_option maxHeartbeats 2000000 in
theorem fills_law {κ : World} {L : List Assn} {s : Int} {at_ : Option Addr} {nt ct : Nat} {ts : List Int} (hs : inInt s) (ht : Sl RI at_ nt ct ts ∈ L) :
    Ctr Try.prog 5 #[vI s, .slice at_ nt ct] κ L (fun v M => v = vB true ∧ M = L) := by
 refine Ctr.enter (vs := [vI s, .slice at_ nt ct]) (m := 132) Try.func5 rfl rfl rfl ?_
 refine SG.fact (fun w hs => Sep.slInts hs ht) fun hti => ?_
 refine SG.sl (T := RI) (a := at_) (l := ts) memX fun hl hlc hc63 => ?_
 subst hl
 refine SG.seq ?_
 refine SG.region ?_
 refine RL.val (Wanted.free rfl) (V.assign rfl rfl) rfl ?_
 refine RL.nil ?_
 refine SG.seq ?_
 refine SG.region ?_
 refine RL.val (Wanted.free rfl) (V.move rfl rfl) rfl ?_
 refine RL.eff (Wanted.free rfl) (E.call rfl go23 rfl (begin_ok hs)) rfl ?_
 rintro _ _ ⟨q, b, lb, db, g, D, hq, hP, hC, hlen, hrs, hsy, rfl, rfl⟩
 refine RL.val (Wanted.free rfl) (V.assign rfl rfl) rfl ?_
 refine RL.nil ?_
 refine SG.seq ?_
 refine SG.seq ?_
 refine SG.region ?_
 refine RL.val (Wanted.free rfl) (V.move rfl rfl) rfl ?_
 refine RL.cmpF (Wanted.free rfl) (V.eqlPtrNil rfl up48 rfl rfl) rfl (by simp) ?_
 refine RL.nil ?_
 refine SG.cond_false rfl ?_
 refine SG.skip ?_
 refine SG.seq ?_
 refine SG.openPast (b := b) (lb := lb) (g := g) (rst := false) pickX fun xa xn xc => ?_
 have hnn := hP.en
 dsimp only [pc]
 rw [hnn, hsy]
 refine SG.ent (Buf.nil (T := Rep.slice R8) (e := 35)) ?_
 rw [← hrs]
 refine SG.region ?_
 refine RL.val (Wanted.free rfl) (V.assign rfl rfl) rfl ?_
 refine RL.nil ?_
 refine SG.seq ?_
 refine SG.seq ?_
 refine SG.region ?_
 refine RL.val (Wanted.free rfl) (V.assign rfl rfl) rfl ?_
 refine RL.nil ?_
 refine SG.join (ι := Lg × (Option Addr × Nat × Nat)) (fun ⟨g, ⟨wa, wn, wc⟩⟩ => [(5, ptr b 0), (6, .slice wa wn wc)]) (fun ⟨g, ⟨wa, wn, wc⟩⟩ => Lgm lb db g :: Dsk db D :: Blk b 51 [ptr db 0, ptr lb 0, vI ((4 + q : Nat) : Int), .slice xa xn xc, vI 0, vB false] :: Buf (Rep.slice R8) 35 wa wn wc g.recs :: L) (fun ⟨g, ⟨wa, wn, wc⟩⟩ => Pst 1 ((4 + q : Nat) : Int) g D 1 60 false) ?_ (fun rest => ?_)
 ·
  rintro ⟨g, ⟨wa, wn, wc⟩⟩ hP
  try dsimp only
  refine SG.seq ?_
  have hgf := hP.good.fit
  rw [hP.en] at hgf
  have hre := room_eq hP.good
  rw [hP.en] at hre
  obtain ⟨hy1, _, _, hyc, hrc, hyr⟩ := hP.sync hC.off (by decide)
  obtain ⟨hy4, hy5⟩ := hyc hC
  have hy6 : (syncR g D).1.synced = g.recs.length := by
     rcases hyr with h | h
     ·
      exact h.2
     ·
      rw [h.1] at hy5; cases hy5
  have hlD := hP.len
  refine SG.region ?_
  refine RL.val (Wanted.free rfl) (V.move rfl rfl) rfl ?_
  refine RL.val (Wanted.free rfl) (V.nilCheck rfl rfl) rfl ?_
  refine RL.val (Wanted.free rfl) (V.fieldAddr rfl rfl fo51_1) rfl ?_
  refine RL.val (Wanted.free rfl) (V.load rfl on31 rfl pickX rfl) rfl ?_
  refine RL.eff (Wanted.free rfl) (E.call rfl go24 rfl (lRoom_ok hP.good.ok (b := lb) pickX)) rfl ?_
  rintro _ _ ⟨rfl, rfl⟩
  rw [hre]
  refine RL.val (Wanted.free rfl) (V.assign rfl rfl) rfl ?_
  refine RL.nil ?_
  refine SG.seq ?_
  refine SG.seq ?_
  refine SG.region ?_
  refine RL.val (Wanted.free rfl) (V.move rfl rfl) rfl ?_
  refine RL.val (Wanted.free rfl) (V.move rfl rfl) rfl ?_
  refine RL.val (Wanted.free rfl) (V.nilCheck rfl rfl) rfl ?_
  refine RL.val (Wanted.free rfl) (V.fieldAddr rfl rfl fo51_2) rfl ?_
  refine RL.val (Wanted.free rfl) (V.load rfl on3 rfl pickX rfl) rfl ?_
  refine RL.val (Wanted.free rfl) (V.move rfl rfl) rfl ?_
  refine RL.eff (Wanted.free rfl) (E.call rfl go26 rfl (room_rd (l := g.recs) (n := ((4 + q : Nat) : Int)) (by omega) (by omega) (by omega) (by first | (apply Seen.sl; (· repeat (first | exact List.Mem.head _ | assumption | apply List.Mem.tail))) | (apply Seen.buf; (· repeat (first | exact Pick.here | apply Pick.there)))))) rfl ?_
  rintro _ _ ⟨rfl, rfl⟩
  refine RL.cmpF (Wanted.free rfl) (V.bin rfl rfl rfl B.neq) rfl (by simp) ?_
  refine RL.val (Wanted.free rfl) (V.move rfl rfl) rfl ?_
  refine RL.val (Wanted.yes rfl rfl rfl rfl) (V.move rfl rfl) rfl ?_
  refine RL.val (Wanted.yes rfl rfl rfl rfl) (V.nilCheck rfl rfl) rfl ?_
  refine RL.val (Wanted.yes rfl rfl rfl rfl) (V.fieldAddr rfl rfl fo51_1) rfl ?_
  refine RL.val (Wanted.yes rfl rfl rfl rfl) (V.load rfl on31 rfl pickX rfl) rfl ?_
  refine RL.eff (Wanted.yes rfl rfl rfl rfl) (E.call rfl go21 rfl (lSync_ok hP.good.ok (b := lb) pickX hP.ok hP.m1 (by omega) pickX)) rfl ?_
  rintro _ _ ⟨rfl, rfl⟩
  rw [hy5]
  refine RL.cmpF (Wanted.yes rfl rfl rfl rfl) (V.bin rfl rfl rfl B.neq) rfl (by simp) ?_
  refine RL.val (Wanted.free rfl) (V.pick_false rfl rfl rfl) rfl ?_
  refine RL.nil ?_
  refine SG.cond_false rfl ?_
  refine SG.skip ?_
  refine SG.seq ?_
  obtain ⟨Ef, hE⟩ : ∃ Ef, (syncR g D).2.1 = Ef := ⟨_, rfl⟩
  obtain ⟨g2, hg2⟩ : ∃ g2, (syncR g D).1 = g2 := ⟨_, rfl⟩
  rw [hE, hg2] at hy1 ⊢
  rw [hg2] at hrc hy6
  have hQ := hy1
  obtain ⟨rs, T2, hB, _, _, _⟩ := (hQ.blow (k := 0) (by decide)).crash (by decide) []
  have hok1 := hQ.ok.blow (n := 0) (by decide)
  have hok2 := hok1.restart hQ.m1 []
  have hrs0 := back_full hB (by rw [hrc]; exact hy6)
  rw [hrc] at hrs0
  subst hrs0
  have hlen2 : ((Ef.blow 0).restart []).S.length = Ef.S.length := by rw [restart_len, blow_S]
  have hlen3 := hQ.len
  have hcv : checkV ((Ef.blow 0).restart []) 1 ((4 + q : Nat) : Int) = 0 := checkV_zero.2 ⟨by omega, by decide, by omega, by omega, rfl⟩
  have hgo := lgO_good (by decide) (by decide) (by omega) (by omega) hB.fits hB.used hB.each
  refine SG.region ?_
  refine RL.val (Wanted.free rfl) (V.move rfl rfl) rfl ?_
  refine RL.val (Wanted.free rfl) (V.nilCheck rfl rfl) rfl ?_
  refine RL.val (Wanted.free rfl) (V.fieldAddr rfl rfl fo51_0) rfl ?_
  refine RL.val (Wanted.free rfl) (V.load rfl on23 rfl pickX rfl) rfl ?_
  refine RL.eff (Wanted.free rfl) (E.call rfl go12 rfl (dFuse_ok hQ.ok (b := db) pickX 0 (by omega) (by omega))) rfl ?_
  rintro _ _ ⟨rfl, rfl⟩
  refine RL.nil ?_
  refine SG.seq ?_
  refine SG.ent (Sl.nil (T := RTorn)) ?_
  refine SG.region ?_
  refine RL.val (Wanted.free rfl) (V.move rfl rfl) rfl ?_
  refine RL.val (Wanted.free rfl) (V.nilCheck rfl rfl) rfl ?_
  refine RL.val (Wanted.free rfl) (V.fieldAddr rfl rfl fo51_0) rfl ?_
  refine RL.val (Wanted.free rfl) (V.load rfl on23 rfl pickX rfl) rfl ?_
  refine RL.eff (Wanted.free rfl) (E.call rfl go27 rfl (dRestart_ok hok1 (b := db) pickX (ts := []) memX hQ.m1 (by omega))) rfl ?_
  rintro _ _ ⟨rfl, rfl⟩
  refine RL.nil ?_
  refine SG.seq ?_
  refine SG.drawL 14 14 wide rfl rfl ?_
  refine RH.val 0 rfl krX krX krX krX (Wanted.free rfl) (V.move rfl rfl) rfl ?_
  refine RH.val 1 rfl krX krX krX krX (Wanted.free rfl) (V.nilCheck rfl rfl) rfl ?_
  refine RH.val 2 rfl krX krX krX krX (Wanted.free rfl) (V.fieldAddr rfl rfl fo51_0) rfl ?_
  refine RH.val 3 rfl krX krX krX krX (Wanted.free rfl) (V.load rfl on23 rfl pickX rfl) rfl ?_
  refine RH.val 4 rfl krX krX krX krX (Wanted.free rfl) (V.move rfl rfl) rfl ?_
  refine RH.val 5 rfl krX krX krX krX (Wanted.free rfl) (V.nilCheck rfl rfl) rfl ?_
  refine RH.val 6 rfl krX krX krX krX (Wanted.free rfl) (V.fieldAddr rfl rfl fo51_2) rfl ?_
  refine RH.val 7 rfl krX krX krX krX (Wanted.free rfl) (V.load rfl on3 rfl pickX rfl) rfl ?_
  refine RH.one (i := 8) krX ?_
  refine RHone.eff rfl (Wanted.free rfl) (E.call rfl go14 rfl (open_ok hok2 (by omega) (db := db) pickX (by unfold inInt; omega) (by unfold inInt; omega) hcv hB.fits)) rfl ?_
  rintro _ _ ⟨b108, rfl, rfl⟩
  refine ⟨.inr entX, ?_⟩
  refine RH.val 9 rfl krX krX krX krX (Wanted.free rfl) (V.move rfl rfl) rfl ?_
  refine RH.val 10 rfl krX krX krX krX (Wanted.free rfl) (V.extract rfl rfl rfl) rfl ?_
  refine RH.val 11 rfl krX krX krX krX (Wanted.free rfl) (V.extract rfl rfl rfl) rfl ?_
  refine RH.val 12 rfl krX krX krX krX (Wanted.free rfl) (V.assign rfl rfl) rfl ?_
  refine RH.val 13 rfl krX krX krX krX (Wanted.free rfl) (V.assign rfl rfl) rfl ?_
  refine RH.done krX ?_
  refine SG.seq ?_
  refine SG.region ?_
  refine RL.val (Wanted.free rfl) (V.move rfl rfl) rfl ?_
  refine RL.cmpT (Wanted.free rfl) (V.bin rfl rfl rfl B.eql) rfl rfl ?_
  refine RL.val (Wanted.free rfl) (V.move rfl rfl) rfl ?_
  refine RL.val (Wanted.yes rfl rfl rfl rfl) (V.move rfl rfl) rfl ?_
  refine RL.cmpT (Wanted.yes rfl rfl rfl rfl) (V.neqPtrNil rfl up31 rfl rfl) rfl (by simp) ?_
  refine RL.val (Wanted.free rfl) (V.pick_true rfl rfl rfl) rfl ?_
  refine RL.val (Wanted.free rfl) (V.move rfl rfl) rfl ?_
  refine RL.val (Wanted.yes rfl rfl rfl rfl) (V.move rfl rfl) rfl ?_
  refine RL.eff (Wanted.yes rfl rfl rfl rfl) (E.call rfl go29 rfl (lRecs_ok hgo.ok (b := b108) pickX (fun r hr => by have := hgo.each r hr; omega))) rfl ?_
  rintro _ _ ⟨a119, c119, rfl, rfl⟩
  refine RL.val (Wanted.yes rfl rfl rfl rfl) (V.move rfl rfl) rfl ?_
  refine RL.eff (Wanted.yes rfl rfl rfl rfl) (E.call rfl go28 rfl (sames_rd (a := a119) (l := g.recs) (l' := g.recs) (by first | (apply Seen.sl; (· repeat (first | exact List.Mem.head _ | assumption | apply List.Mem.tail))) | (apply Seen.buf; (· repeat (first | exact Pick.here | apply Pick.there)))) (by first | (apply Seen.sl; (· repeat (first | exact List.Mem.head _ | assumption | apply List.Mem.tail))) | (apply Seen.buf; (· repeat (first | exact Pick.here | apply Pick.there)))))) rfl ?_
  rintro _ _ ⟨rfl, rfl⟩
  rw [decide_eq_true (rfl : g.recs = g.recs)]
  refine RL.val (Wanted.free rfl) (V.pick_true rfl rfl rfl) rfl ?_
  refine RL.val (Wanted.free rfl) (V.move rfl rfl) rfl ?_
  refine RL.val (Wanted.yes rfl rfl rfl rfl) (V.move rfl rfl) rfl ?_
  refine RL.eff (Wanted.yes rfl rfl rfl rfl) (E.call rfl go24 rfl (lRoom_ok hgo.ok (b := b108) pickX)) rfl ?_
  rintro _ _ ⟨rfl, rfl⟩
  refine RL.val (Wanted.yes rfl rfl rfl rfl) (V.move rfl rfl) rfl ?_
  refine RL.cmpT (Wanted.yes rfl rfl rfl rfl) (V.bin rfl rfl rfl B.eql) rfl (room_eq hgo) ?_
  refine RL.val (Wanted.free rfl) (V.pick_true rfl rfl rfl) rfl ?_
  refine RL.val (Wanted.free rfl) (V.move rfl rfl) rfl ?_
  refine RL.eff (Wanted.yes rfl rfl rfl rfl) (E.call rfl go17 rfl (lives_ok)) rfl ?_
  rintro _ _ ⟨rfl, rfl⟩
  refine RL.val (Wanted.free rfl) (V.pick_true rfl rfl rfl) rfl ?_
  refine RL.val (Wanted.free rfl) (V.assign rfl rfl) rfl ?_
  refine RL.nil ?_
  refine SG.retE (Ret.r1 Try.func5 rfl (.tmp rfl)) ?_ ⟨rfl, rfl⟩
  exact entX
 ·
  refine SG.block ?_
  refine SG.weaken (SG.loop2 (fun m9 al M => ∃ (i : Nat) (g : Lg) (wa : Option Addr) (wn wc : Nat), i ≤ 100 ∧ m9 = 100 - i ∧ Pst 1 ((4 + q : Nat) : Int) g D 1 60 false ∧ al = [(1, .slice at_ ts.length ct), (5, ptr b 0), (6, .slice wa wn wc), (7, vI i)] ∧ M = Lgm lb db g :: Dsk db D :: Blk b 51 [ptr db 0, ptr lb 0, vI ((4 + q : Nat) : Int), .slice xa xn xc, vI 0, vB false] :: Buf (Rep.slice R8) 35 wa wn wc g.recs :: L) (m0 := _) ⟨0, g, none, 0, 0, by omega, rfl, hP, rfl, rfl⟩ ?_) ?_ ?_
  rotate_left
  ·
   repeat (first | exact EnvLe.nil _ | refine EnvLe.cons rfl ?_)
  ·
   exact entX
  rintro _ _ _ ⟨i, g, wa, wn, wc, hi, rfl, hP, rfl, rfl⟩ ih0
  refine SG.seq ?_
  refine SG.seq ?_
  refine SG.region ?_
  refine RL.val (Wanted.free rfl) (V.move rfl rfl) rfl ?_
  refine RL.cmp (Wanted.free rfl) (V.bin rfl rfl rfl B.lss) rfl (fun h67 => ?_) (fun h67 => ?_)
  ·
   refine RL.val (Wanted.free rfl) (V.move rfl rfl) rfl ?_
   refine RL.val (Wanted.yes rfl rfl rfl rfl) (V.move rfl rfl) rfl ?_
   refine RL.val (Wanted.yes rfl rfl rfl rfl) (V.nilCheck rfl rfl) rfl ?_
   refine RL.val (Wanted.yes rfl rfl rfl rfl) (V.fieldAddr rfl rfl fo51_1) rfl ?_
   refine RL.val (Wanted.yes rfl rfl rfl rfl) (V.load rfl on31 rfl pickX rfl) rfl ?_
   refine RL.eff (Wanted.yes rfl rfl rfl rfl) (E.call rfl go24 rfl (lRoom_ok hP.good.ok (b := lb) pickX)) rfl ?_
   rintro _ _ ⟨rfl, rfl⟩
   refine RL.cmp (Wanted.yes rfl rfl rfl rfl) (V.bin rfl rfl rfl B.geq) rfl (fun h74 => ?_) (fun h74 => ?_)
   ·
    obtain ⟨rm, hrm⟩ := Int.eq_ofNat_of_zero_le (show 0 ≤ roomV g by omega)
    have hrr := room_eq hP.good
    rw [hP.en, hrm] at hrr
    have hr4 := (roomR_bd ((4 + q : Nat) : Int) g.recs).2
    refine RL.val (Wanted.free rfl) (V.pick_true rfl rfl rfl) rfl ?_
    refine RL.nil ?_
    refine SG.cond_true rfl ?_
    refine SG.skip ?_
    refine SG.seq ?_
    refine SG.block ?_
    refine SG.seq ?_
    refine SG.region ?_
    refine RL.val (Wanted.free rfl) (V.assign rfl rfl) rfl ?_
    refine RL.nil ?_
    refine SG.seq ?_
    refine SG.seq ?_
    refine SG.join2 (ι := Nat) (fun k => [(1, .slice at_ ts.length ct), (5, ptr b 0), (6, .slice wa wn wc), (7, vI i), (8, vI k)]) (fun k => Lgm lb db g :: Dsk db D :: Blk b 51 [ptr db 0, ptr lb 0, vI ((4 + q : Nat) : Int), .slice xa xn xc, vI 0, vB false] :: Buf (Rep.slice R8) 35 wa wn wc g.recs :: L) (fun k => k ≤ 4000) ?_ (fun rest => ?_)
    ·
     rintro k hk
     try dsimp only
     refine SG.seq ?_
     refine SG.region ?_
     refine RL.val (Wanted.free rfl) (V.move rfl rfl) rfl ?_
     refine RL.val (Wanted.free rfl) (V.nilCheck rfl rfl) rfl ?_
     refine RL.val (Wanted.free rfl) (V.fieldAddr rfl rfl fo51_1) rfl ?_
     refine RL.val (Wanted.free rfl) (V.load rfl on31 rfl pickX rfl) rfl ?_
     refine RL.eff (Wanted.free rfl) (E.call rfl go24 rfl (lRoom_ok hP.good.ok (b := lb) pickX)) rfl ?_
     rintro _ _ ⟨rfl, rfl⟩
     rw [hrm]
     refine RL.val (Wanted.free rfl) (V.assign rfl rfl) rfl ?_
     refine RL.nil ?_
     refine SG.seq ?_
     refine SG.seq ?_
     refine SG.join2 (ι := Nat) (fun k => [(1, .slice at_ ts.length ct), (5, ptr b 0), (6, .slice wa wn wc), (7, vI i), (8, vI k), (9, vI rm)]) (fun k => Lgm lb db g :: Dsk db D :: Blk b 51 [ptr db 0, ptr lb 0, vI ((4 + q : Nat) : Int), .slice xa xn xc, vI 0, vB false] :: Buf (Rep.slice R8) 35 wa wn wc g.recs :: L) (fun k => k ≤ 4000) ?_ (fun rest => ?_)
     ·
      rintro k hk
      try dsimp only
      refine SG.seq ?_
      refine SG.region ?_
      refine RL.val (Wanted.free rfl) (V.move rfl rfl) rfl ?_
      refine RL.val (Wanted.free rfl) (V.move rfl rfl) rfl ?_
      refine RL.eff (Wanted.free rfl) (E.call rfl go25 rfl (bytes_ok (n := k) (by omega))) rfl ?_
      rintro _ _ ⟨a49, c49, rfl, rfl⟩
      have hbl := bytesV_length (seedV (i : Int)) k
      generalize bytesV (seedV (i : Int)) k = rec at hbl ⊢
      refine RL.publish (T := R8) (a := a49) Pick.here ?_
      refine RL.val (Wanted.free rfl) (V.assign rfl rfl) rfl ?_
      refine RL.nil ?_
      refine SG.seq ?_
      refine SG.seq ?_
      have hapi := appR_iff (n := ((4 + q : Nat) : Int)) (rs := g.recs) (rec := rec) (by omega)
      refine SG.region ?_
      refine RL.val (Wanted.free rfl) (V.move rfl rfl) rfl ?_
      refine RL.val (Wanted.free rfl) (V.nilCheck rfl rfl) rfl ?_
      refine RL.val (Wanted.free rfl) (V.fieldAddr rfl rfl fo51_1) rfl ?_
      refine RL.val (Wanted.free rfl) (V.load rfl on31 rfl pickX rfl) rfl ?_
      refine RL.val (Wanted.free rfl) (V.move rfl rfl) rfl ?_
      refine RL.eff (Wanted.free rfl) (E.call rfl go16 rfl (lAppend_ok hP.good.ok (b := lb) pickX hP.ok pickX (rec := rec) memX)) rfl ?_
      rintro _ _ ⟨rfl, rfl⟩
      have hae : appE g D rec = appR ((4 + q : Nat) : Int) g.recs rec := by rw [app_eq hP.good hC.off, hP.en]
      rw [hae]
      refine RL.cmp (Wanted.free rfl) (V.bin rfl rfl rfl B.eql) rfl (fun h92 => ?_) (fun h92 => ?_)
      ·
       have hap := hapi.1 h92
       obtain ⟨ha1, hrc, ha3⟩ := hP.app (rec := rec) hC.off (by rw [hae]; exact h92)
       refine RL.val (Wanted.free rfl) (V.move rfl rfl) rfl ?_
       refine RL.val (Wanted.free rfl) (V.move rfl rfl) rfl ?_
       refine RL.cmpT (Wanted.free rfl) (V.bin rfl rfl rfl B.leq) rfl (by omega) ?_
       refine RL.cmpF (Wanted.free rfl) (V.neqBool rfl ub4 rfl rfl) rfl (by simp) ?_
       refine RL.nil ?_
       refine SG.cond_false rfl ?_
       refine SG.skip ?_
       refine SG.seq ?_
       refine SG.region ?_
       refine RL.val (Wanted.free rfl) (V.move rfl rfl) rfl ?_
       refine RL.val (Wanted.free rfl) (V.move rfl rfl) rfl ?_
       refine RL.cmpT (Wanted.free rfl) (V.bin rfl rfl rfl B.leq) rfl (by omega) ?_
       refine RL.nil ?_
       refine SG.cond_true rfl ?_
       refine SG.buf (T := Rep.slice R8) (a := wa) pickX fun hwl _ _ => ?_
       have hgf := hP.good.fit
       rw [hP.en] at hgf
       have hrl2 := recs_le g.recs
       refine SG.region ?_
       refine RL.val (Wanted.free rfl) (V.move rfl rfl) rfl ?_
       refine RL.val (Wanted.free rfl) (V.move rfl rfl) rfl ?_
       refine RL.eff (Wanted.free rfl) (E.lit1 [.slice a49 k c49] rfl el39.slice ze35 rfl (by decide) (by decide) rfl rfl rfl) rfl ?_
       rintro _ _ ⟨b66, rfl, rfl⟩
       refine RL.eff (Wanted.free rfl) (E.append (T := (Rep.slice R8)) rfl rfl rfl el39 el39.noInt rfl rfl pickX (Src.litSl (y := rec) pickX memX) (by first | omega | (simp; omega)) (by first | omega | (simp; omega))) rfl ?_
       intro _ _ hK100
       try rw [List.nil_append] at hK100
       try rw [Nat.zero_add] at hK100
       rw [← hrc] at hK100
       obtain ⟨a67, c67, rfl, rfl⟩ := hK100
       refine RL.val (Wanted.free rfl) (V.assign rfl rfl) rfl ?_
       refine RL.nil ?_
       refine SG.inBlock ?_
       refine SG.region ?_
       refine RL.val (Wanted.free rfl) (V.move rfl rfl) rfl ?_
       refine RL.val (Wanted.free rfl) (V.bin rfl rfl rfl (B.addI (by omega) (by omega))) rfl ?_
       refine RL.val (Wanted.free rfl) (V.assign rfl rfl) rfl ?_
       refine RL.nil ?_
       refine SG.weaken (ih0 _ _ _ ?_ ⟨i + 1, appL g D rec, a67, wn + 1, c67, by omega, rfl, ha1, rfl, rfl⟩) ?_ ?_
       ·
        omega
       ·
        repeat (first | exact EnvLe.nil _ | refine EnvLe.cons rfl ?_)
       ·
        exact entX
      ·
       have hap : ¬ (rec.length : Int) ≤ roomR ((4 + q : Nat) : Int) g.recs := fun e => h92 (hapi.2 e)
       have hal := appL_err (g := g) (D := D) (rec := rec) hae h92
       rw [hal]
       refine RL.val (Wanted.free rfl) (V.move rfl rfl) rfl ?_
       refine RL.val (Wanted.free rfl) (V.move rfl rfl) rfl ?_
       refine RL.cmpF (Wanted.free rfl) (V.bin rfl rfl rfl B.leq) rfl (by omega) ?_
       refine RL.cmpF (Wanted.free rfl) (V.neqBool rfl ub4 rfl rfl) rfl (by simp) ?_
       refine RL.nil ?_
       refine SG.cond_false rfl ?_
       refine SG.skip ?_
       refine SG.seq ?_
       refine SG.region ?_
       refine RL.val (Wanted.free rfl) (V.move rfl rfl) rfl ?_
       refine RL.val (Wanted.free rfl) (V.move rfl rfl) rfl ?_
       refine RL.cmpF (Wanted.free rfl) (V.bin rfl rfl rfl B.leq) rfl (by omega) ?_
       refine RL.nil ?_
       refine SG.cond_false rfl ?_
       refine SG.skip ?_
       refine SG.inBlock ?_
       refine SG.region ?_
       refine RL.val (Wanted.free rfl) (V.move rfl rfl) rfl ?_
       refine RL.val (Wanted.free rfl) (V.bin rfl rfl rfl (B.addI (by omega) (by omega))) rfl ?_
       refine RL.val (Wanted.free rfl) (V.assign rfl rfl) rfl ?_
       refine RL.nil ?_
       refine SG.weaken (ih0 _ _ _ ?_ ⟨i + 1, g, wa, wn, wc, by omega, rfl, hP, rfl, rfl⟩) ?_ ?_
       ·
        omega
       ·
        repeat (first | exact EnvLe.nil _ | refine EnvLe.cons rfl ?_)
       ·
        exact entX
     ·
      refine SG.region ?_
      refine RL.val (Wanted.free rfl) (V.move rfl rfl) rfl ?_
      refine RL.cmp (Wanted.free rfl) (V.bin rfl rfl rfl B.geq) rfl (fun h113 => ?_) (fun h113 => ?_)
      ·
       refine RL.nil ?_
       refine SG.cond_true rfl ?_
       refine SG.region ?_
       refine RL.val (Wanted.free rfl) (V.move rfl rfl) rfl ?_
       refine RL.val (Wanted.free rfl) (V.assign rfl rfl) rfl ?_
       refine RL.nil ?_
       refine SG.weaken (rest rm (by omega)) ?_ ?_
       ·
        repeat (first | exact EnvLe.nil _ | refine EnvLe.cons rfl ?_)
       ·
        exact entX
      ·
       refine RL.nil ?_
       refine SG.cond_false rfl ?_
       refine SG.skip ?_
       refine SG.weaken (rest k (by omega)) ?_ ?_
       ·
        repeat (first | exact EnvLe.nil _ | refine EnvLe.cons rfl ?_)
       ·
        exact entX
    ·
     refine SG.region ?_
     refine RL.val (Wanted.free rfl) (V.move rfl rfl) rfl ?_
     refine RL.val (Wanted.free rfl) (V.move rfl rfl) rfl ?_
     refine RL.val (Wanted.free rfl) (V.len rfl rfl el47.under rfl) rfl ?_
     refine RL.cmp (Wanted.free rfl) (V.bin rfl rfl rfl B.lss) rfl (fun h119 => ?_) (fun h119 => ?_)
     ·
      refine RL.nil ?_
      refine SG.cond_true rfl ?_
      obtain ⟨x, hx⟩ : ∃ x, ts[i]? = some x := ⟨_, List.getElem?_eq_getElem (by omega)⟩
      have hxi := hti x (List.mem_of_getElem? hx)
      unfold inInt at hxi
      obtain ⟨kk, hkk, hkk2⟩ := aroundV_nat (n := x) (most := 200) (by omega)
      refine SG.region ?_
      refine RL.val (Wanted.free rfl) (V.move rfl rfl) rfl ?_
      refine RL.val (Wanted.free rfl) (V.move rfl rfl) rfl ?_
      refine RL.val (Wanted.free rfl) (V.indexSl (j := i) rfl el47.slice rfl rfl memX (by first | rfl | omega) (by omega)) rfl ?_
      refine RL.val (Wanted.free rfl) (V.loadSc rfl on3 rfl memX hx) rfl ?_
      refine RL.eff (Wanted.free rfl) (E.call rfl go9 rfl (around_ok _ _ hxi.1 hxi.2 (by omega))) rfl ?_
      rintro _ _ ⟨rfl, rfl⟩
      rw [hkk]
      refine RL.val (Wanted.free rfl) (V.assign rfl rfl) rfl ?_
      refine RL.nil ?_
      refine SG.weaken (rest kk (by omega)) ?_ ?_
      ·
       repeat (first | exact EnvLe.nil _ | refine EnvLe.cons rfl ?_)
      ·
       exact entX
     ·
      refine RL.nil ?_
      refine SG.cond_false rfl ?_
      refine SG.skip ?_
      refine SG.weaken (rest 1 (by omega)) ?_ ?_
      ·
       repeat (first | exact EnvLe.nil _ | refine EnvLe.cons rfl ?_)
      ·
       exact entX
   ·
    refine RL.val (Wanted.free rfl) (V.pick_true rfl rfl rfl) rfl ?_
    refine RL.nil ?_
    refine SG.cond_false rfl ?_
    refine SG.exit rfl ?_
    refine SG.weaken (rest ⟨g, ⟨wa, wn, wc⟩⟩ hP) ?_ ?_
    ·
     repeat (first | exact EnvLe.nil _ | refine EnvLe.cons rfl ?_)
    ·
     exact entX
  ·
   refine RL.val (Wanted.free rfl) (V.move rfl rfl) rfl ?_
   refine RL.skip (Wanted.no rfl rfl rfl rfl rfl) rfl ?_
   refine RL.skip (Wanted.no rfl rfl rfl rfl rfl) rfl ?_
   refine RL.skip (Wanted.no rfl rfl rfl rfl rfl) rfl ?_
   refine RL.skip (Wanted.no rfl rfl rfl rfl rfl) rfl ?_
   refine RL.skip (Wanted.no rfl rfl rfl rfl rfl) rfl ?_
   refine RL.skip (Wanted.no rfl rfl rfl rfl rfl) rfl ?_
   refine RL.val (Wanted.free rfl) (V.pick_false rfl rfl rfl) rfl ?_
   refine RL.nil ?_
   refine SG.cond_false rfl ?_
   refine SG.exit rfl ?_
   refine SG.weaken (rest ⟨g, ⟨wa, wn, wc⟩⟩ hP) ?_ ?_
   ·
    repeat (first | exact EnvLe.nil _ | refine EnvLe.cons rfl ?_)
   ·
    exact entX

end Go.Proofs.Ytnbjonijlkjclaa
