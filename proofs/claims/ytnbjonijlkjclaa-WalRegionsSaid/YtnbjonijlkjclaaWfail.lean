/- The power fails. -/
import Derived.Test.YtnbjonijlkjclaaWbeg
import Derived.Test.YtnbjonijlkjclaaOpensw
namespace Go.Proofs.Ytnbjonijlkjclaa
open Go.Wk Go.Wl Go.Dsk

set_option maxRecDepth 100000 in
set_option maxHeartbeats 2000000 in
theorem fail_ok {κ : World} {L : List Assn} {L1 L2 : List Assn} {b lb db : Nat} {g : Lg} {D : Dk} {n fz : Int} {a at_ : Option Addr} {n0 c nt ct : Nat} {l : List ActD} {ts : List Torn} (hP : Pst 1 n g D 1 60 false) (hn20 : n ≤ 20) (hz0 : 0 ≤ fz) (hz1 : fz ≤ 1000) (hp : Pick (Past b lb db g false) L L1) (hd : Pick (Dsk db D) L1 L2) (hm : Sl RAct a n0 c l ∈ L2) (ht : Sl RTorn at_ nt ct ts ∈ L2) :
    Ctr Try.prog 30 #[ptr b 0, .slice a n0 c, vI fz, .slice at_ nt ct] κ L (fun v M => v = vB true ∧ M = L2) := by
 refine Ctr.enter (vs := [ptr b 0, .slice a n0 c, vI fz, .slice at_ nt ct]) (m := 130) Try.func30 rfl rfl rfl ?_
 refine SG.ent (hp.trans (Ent.frame _ hd)) ?_
 refine SG.sl (T := RAct) (a := a) (l := l) memX fun hl hlc hc63 => ?_
 subst hl
 have hnn0 := hP.nat
 refine SG.openPast (b := b) (lb := lb) (g := g) (rst := false) pickX fun xa xn xc => ?_
 refine SG.seq ?_
 refine SG.region ?_
 refine RL.val (Wanted.free rfl) (V.assign rfl rfl) rfl ?_
 refine RL.nil ?_
 refine SG.seq ?_
 refine SG.region ?_
 refine RL.val (Wanted.free rfl) (V.move rfl rfl) rfl ?_
 refine RL.val (Wanted.free rfl) (V.nilCheck rfl rfl) rfl ?_
 refine RL.val (Wanted.free rfl) (V.fieldAddr rfl rfl fo51_0) rfl ?_
 refine RL.val (Wanted.free rfl) (V.load rfl on23 rfl pickX rfl) rfl ?_
 refine RL.val (Wanted.free rfl) (V.move rfl rfl) rfl ?_
 refine RL.eff (Wanted.free rfl) (E.call rfl go12 rfl (dFuse_ok hP.ok (b := db) pickX fz (by omega) (by omega))) rfl ?_
 rintro _ _ ⟨rfl, rfl⟩
 refine RL.nil ?_
 refine SG.seq ?_
 refine SG.region ?_
 refine RL.val (Wanted.free rfl) (V.move rfl rfl) rfl ?_
 refine RL.val (Wanted.free rfl) (V.nilCheck rfl rfl) rfl ?_
 refine RL.val (Wanted.free rfl) (V.fieldAddr rfl rfl fo51_5) rfl ?_
 refine RL.eff (Wanted.free rfl) (E.store1 rfl rfl rfl rfl rfl sz4 pickX rfl) rfl ?_
 rintro _ _ rfl
 refine RL.nil ?_
 refine SG.seq ?_
 refine SG.seq ?_
 refine SG.region ?_
 refine RL.val (Wanted.free rfl) (V.assign rfl rfl) rfl ?_
 refine RL.nil ?_
 refine SG.join (ι := Lg × Dk × Bool) (fun ⟨g, D, rst⟩ => [(0, ptr b 0), (3, .slice at_ nt ct)]) (fun ⟨g, D, rst⟩ => Past b lb db g rst :: Dsk db D :: L2) (fun ⟨g, D, rst⟩ => Pst 1 n g D 21 1000 rst) ?_ (fun rest => ?_)
 ·
  rintro ⟨g, D, rst⟩ hP
  try dsimp only
  refine SG.seq ?_
  refine SG.openPast (b := b) (lb := lb) (g := g) (rst := rst) pickX fun xa xn xc => ?_
  obtain ⟨rs, T2, hB, hCn, _, _⟩ := (hP.blow (k := 0) (by decide)).crash (by decide) ts
  have hok1 := hP.ok.blow (n := 0) (by decide)
  have hok2 := hok1.restart hP.m1 ts
  obtain ⟨hn0, hn1, hn2, hn3⟩ := hP.nat
  have hlen2 : ((D.blow 0).restart ts).S.length = D.S.length := by rw [restart_len, blow_S]
  have hlen3 := hP.len
  have hcv : checkV ((D.blow 0).restart ts) 1 n = 0 := checkV_zero.2 ⟨hn2, by decide, by omega, by omega, rfl⟩
  have hgo := lgO_good (by decide) (by decide) hn2 hn3 hB.fits hB.used hB.each
  have hrb := recs_le rs
  have hub := hB.used
  have hnn := hP.en
  have hmm := hP.m1
  refine SG.region ?_
  refine RL.val (Wanted.free rfl) (V.move rfl rfl) rfl ?_
  refine RL.val (Wanted.free rfl) (V.nilCheck rfl rfl) rfl ?_
  refine RL.val (Wanted.free rfl) (V.fieldAddr rfl rfl fo51_0) rfl ?_
  refine RL.val (Wanted.free rfl) (V.load rfl on23 rfl pickX rfl) rfl ?_
  refine RL.eff (Wanted.free rfl) (E.call rfl go12 rfl (dFuse_ok hP.ok (b := db) pickX 0 (by omega) (by omega))) rfl ?_
  rintro _ _ ⟨rfl, rfl⟩
  refine RL.nil ?_
  refine SG.seq ?_
  refine SG.region ?_
  refine RL.val (Wanted.free rfl) (V.move rfl rfl) rfl ?_
  refine RL.val (Wanted.free rfl) (V.nilCheck rfl rfl) rfl ?_
  refine RL.val (Wanted.free rfl) (V.fieldAddr rfl rfl fo51_0) rfl ?_
  refine RL.val (Wanted.free rfl) (V.load rfl on23 rfl pickX rfl) rfl ?_
  refine RL.val (Wanted.free rfl) (V.move rfl rfl) rfl ?_
  refine RL.eff (Wanted.free rfl) (E.call rfl go27 rfl (dRestart_ok hok1 (b := db) pickX (ts := ts) memX hmm (by omega))) rfl ?_
  rintro _ _ ⟨rfl, rfl⟩
  refine RL.nil ?_
  refine SG.seq ?_
  dsimp only [pc]
  rw [hnn]
  refine SG.drawL 14 14 wide rfl rfl ?_
  refine RH.val 0 rfl krX krX krX krX (Wanted.free rfl) (V.move rfl rfl) rfl ?_
  refine RH.val 1 rfl krX krX krX krX (Wanted.free rfl) (V.nilCheck rfl rfl) rfl ?_
  refine RH.val 2 rfl krX krX krX krX (Wanted.free rfl) (V.fieldAddr rfl rfl fo51_0) rfl ?_
  refine RH.val 3 rfl krX krX krX krX (Wanted.free rfl) (V.load rfl on23 rfl pickX rfl) rfl ?_
  refine RH.val 4 rfl krX krX krX krX (Wanted.free rfl) (V.move rfl rfl) rfl ?_
  refine RH.val 5 rfl krX krX krX krX (Wanted.free rfl) (V.nilCheck rfl rfl) rfl ?_
  refine RH.val 6 rfl krX krX krX krX (Wanted.free rfl) (V.fieldAddr rfl rfl fo51_2) rfl ?_
  refine RH.val 7 rfl krX krX krX krX (Wanted.free rfl) (V.load rfl on3 rfl pickX rfl) rfl ?_
  refine RH.one (i := 8) krX ?_
  refine RHone.eff rfl (Wanted.free rfl) (E.call rfl go14 rfl (open_ok hok2 (by omega) (db := db) pickX (by unfold inInt; omega) (by unfold inInt; omega) hcv hB.fits)) rfl ?_
  rintro _ _ ⟨b66, rfl, rfl⟩
  refine ⟨.inr entX, ?_⟩
  refine RH.val 9 rfl krX krX krX krX (Wanted.free rfl) (V.move rfl rfl) rfl ?_
  refine RH.val 10 rfl krX krX krX krX (Wanted.free rfl) (V.extract rfl rfl rfl) rfl ?_
  refine RH.val 11 rfl krX krX krX krX (Wanted.free rfl) (V.extract rfl rfl rfl) rfl ?_
  refine RH.val 12 rfl krX krX krX krX (Wanted.free rfl) (V.assign rfl rfl) rfl ?_
  refine RH.val 13 rfl krX krX krX krX (Wanted.free rfl) (V.assign rfl rfl) rfl ?_
  refine RH.done krX ?_
  refine SG.seq ?_
  refine SG.seq ?_
  refine SG.region ?_
  refine RL.val (Wanted.free rfl) (V.move rfl rfl) rfl ?_
  refine RL.cmpF (Wanted.free rfl) (V.bin rfl rfl rfl B.neq) rfl (by simp) ?_
  refine RL.val (Wanted.free rfl) (V.move rfl rfl) rfl ?_
  refine RL.val (Wanted.yes rfl rfl rfl rfl) (V.move rfl rfl) rfl ?_
  refine RL.cmpF (Wanted.yes rfl rfl rfl rfl) (V.eqlPtrNil rfl up31 rfl rfl) rfl (by simp) ?_
  refine RL.val (Wanted.free rfl) (V.pick_false rfl rfl rfl) rfl ?_
  refine RL.nil ?_
  refine SG.cond_false rfl ?_
  refine SG.skip ?_
  refine SG.seq ?_
  refine SG.region ?_
  refine RL.val (Wanted.free rfl) (V.move rfl rfl) rfl ?_
  refine RL.eff (Wanted.free rfl) (E.call rfl go29 rfl (lRecs_ok hgo.ok (b := b66) pickX (fun r hr => by have := hB.each r hr; omega))) rfl ?_
  rintro _ _ ⟨a76, c76, rfl, rfl⟩
  rw [show (lgO ((D.blow 0).restart ts) 1 n rs).recs = rs from rfl]
  refine RL.publish (T := Rep.slice R8) (a := a76) Pick.here ?_
  refine RL.val (Wanted.free rfl) (V.assign rfl rfl) rfl ?_
  refine RL.nil ?_
  refine SG.seq ?_
  refine SG.seq ?_
  refine SG.drawL 23 23 wide rfl rfl ?_
  refine RH.val 0 rfl krX krX krX krX (Wanted.free rfl) (V.move rfl rfl) rfl ?_
  refine RH.val 1 rfl krX krX krX krX (Wanted.free rfl) (V.move rfl rfl) rfl ?_
  refine RH.val 2 rfl krX krX krX krX (Wanted.free rfl) (V.nilCheck rfl rfl) rfl ?_
  refine RH.val 3 rfl krX krX krX krX (Wanted.free rfl) (V.fieldAddr rfl rfl fo51_4) rfl ?_
  refine RH.val 4 rfl krX krX krX krX (Wanted.free rfl) (V.load rfl on3 rfl pickX rfl) rfl ?_
  refine RH.val 5 rfl krX krX krX krX (Wanted.free rfl) (V.move rfl rfl) rfl ?_
  refine RH.val 6 rfl krX krX krX krX (Wanted.free rfl) (V.nilCheck rfl rfl) rfl ?_
  refine RH.val 7 rfl krX krX krX krX (Wanted.free rfl) (V.fieldAddr rfl rfl fo51_3) rfl ?_
  refine RH.val 8 rfl krX krX krX krX (Wanted.free rfl) (V.load rfl on39 rfl pickX rfl) rfl ?_
  refine RH.one (i := 9) krX ?_
  refine RHone.eff rfl (Wanted.free rfl) (E.call rfl go36 rfl (betw_rd (l := rs) (l' := g.recs) (by first | (apply Seen.sl; (· repeat (first | exact List.Mem.head _ | assumption | apply List.Mem.tail))) | (apply Seen.buf; (· repeat (first | exact Pick.here | apply Pick.there)))) (by first | (apply Seen.sl; (· repeat (first | exact List.Mem.head _ | assumption | apply List.Mem.tail))) | (apply Seen.buf; (· repeat (first | exact Pick.here | apply Pick.there)))))) rfl ?_
  rintro _ _ ⟨rfl, rfl⟩
  refine ⟨.inr entX, ?_⟩
  refine RH.pure 10 rfl krX krX krX krX (Wanted.free rfl) (V.not rfl rfl) rfl ?_
  refine RH.val 11 rfl krX krX krX krX (Wanted.free rfl) (V.move rfl rfl) rfl ?_
  refine RH.split 88 rfl (fun g55 => ?_) (fun g55 => ?_)
  ·
   have hnb : ¬ betw rs g.synced g.recs := by simpa using g55
   obtain ⟨hr1, hr2⟩ := hB.old.resolve_left hnb
   subst hr1
   refine RH.val 12 rfl krX krX krX krX (Wanted.yes rfl rfl rfl rfl) (V.move rfl rfl) rfl ?_
   refine RH.val 13 rfl krX krX krX krX (Wanted.yes rfl rfl rfl rfl) (V.nilCheck rfl rfl) rfl ?_
   refine RH.val 14 rfl krX krX krX krX (Wanted.yes rfl rfl rfl rfl) (V.fieldAddr rfl rfl fo51_5) rfl ?_
   refine RH.val 15 rfl krX krX krX krX (Wanted.yes rfl rfl rfl rfl) (V.load rfl on4 rfl pickX rfl) rfl ?_
   refine RH.val 16 rfl krX krX krX krX (Wanted.yes rfl rfl rfl rfl) (V.move rfl rfl) rfl ?_
   refine RH.val 17 rfl krX krX krX krX (Wanted.yes rfl rfl rfl rfl) (V.move rfl rfl) rfl ?_
   refine RH.val 18 rfl krX krX krX krX (Wanted.yes rfl rfl rfl rfl) (V.len rfl rfl el39.under rfl) rfl ?_
   refine RH.cmpT 19 rfl krX krX krX krX (Wanted.yes rfl rfl rfl rfl) (V.bin rfl rfl rfl B.eql) rfl (by rw [hr2]; rfl) ?_
   refine RH.pure 20 rfl krX krX krX krX (Wanted.yes rfl rfl rfl rfl) (V.pick_true rfl rfl rfl) rfl ?_
   refine RH.pure 21 rfl krX krX krX krX (Wanted.yes rfl rfl rfl rfl) (V.not rfl rfl) rfl ?_
   refine RH.pure 22 rfl krX krX krX krX (Wanted.free rfl) (V.pick_true rfl rfl rfl) rfl ?_
   refine RH.done krX ?_
   refine SG.cond_false rfl ?_
   refine SG.skip ?_
   refine SG.seq ?_
   refine SG.region ?_
   refine RL.val (Wanted.free rfl) (V.move rfl rfl) rfl ?_
   refine RL.val (Wanted.free rfl) (V.move rfl rfl) rfl ?_
   refine RL.val (Wanted.free rfl) (V.nilCheck rfl rfl) rfl ?_
   refine RL.val (Wanted.free rfl) (V.fieldAddr rfl rfl fo51_1) rfl ?_
   refine RL.eff (Wanted.free rfl) (E.store1 rfl rfl rfl rfl rfl sz31 pickX rfl) rfl ?_
   rintro _ _ rfl
   refine RL.nil ?_
   refine SG.seq ?_
   skip
   refine SG.region ?_
   refine RL.val (Wanted.free rfl) (V.move rfl rfl) rfl ?_
   refine RL.val (Wanted.free rfl) (V.move rfl rfl) rfl ?_
   refine RL.eff (Wanted.free rfl) (E.call rfl go51 rfl (copied_ok (l := rs) (a := a76) memX (by omega) (fun r hr => by have := hB.each r hr; omega))) rfl ?_
   rintro _ _ ⟨a106, c106, rfl, rfl⟩
   refine RL.val (Wanted.free rfl) (V.nilCheck rfl rfl) rfl ?_
   refine RL.val (Wanted.free rfl) (V.fieldAddr rfl rfl fo51_3) rfl ?_
   refine RL.eff (Wanted.free rfl) (E.store1 rfl rfl rfl rfl rfl sz39 pickX rfl) rfl ?_
   rintro _ _ rfl
   refine RL.nil ?_
   refine SG.seq ?_
   refine SG.region ?_
   refine RL.val (Wanted.free rfl) (V.move rfl rfl) rfl ?_
   refine RL.val (Wanted.free rfl) (V.move rfl rfl) rfl ?_
   refine RL.val (Wanted.free rfl) (V.len rfl rfl el39.under rfl) rfl ?_
   refine RL.val (Wanted.free rfl) (V.nilCheck rfl rfl) rfl ?_
   refine RL.val (Wanted.free rfl) (V.fieldAddr rfl rfl fo51_4) rfl ?_
   refine RL.eff (Wanted.free rfl) (E.store1 rfl rfl rfl rfl rfl sz3 pickX rfl) rfl ?_
   rintro _ _ rfl
   refine RL.nil ?_
   refine SG.seq ?_
   refine SG.drawL 17 17 wide rfl rfl ?_
   refine RH.val 0 rfl krX krX krX krX (Wanted.free rfl) (V.move rfl rfl) rfl ?_
   refine RH.val 2 rfl krX krX krX krX (Wanted.free rfl) (V.move rfl rfl) rfl ?_
   refine RH.val 3 rfl krX krX krX krX (Wanted.free rfl) (V.len rfl rfl el39.under rfl) rfl ?_
   refine RH.one (i := 1) krX ?_
   refine RHone.eff rfl (Wanted.free rfl) (E.call rfl go48 rfl (lSynced_ok hgo.ok (b := b66) pickX)) rfl ?_
   rintro _ _ ⟨rfl, rfl⟩
   refine ⟨.inr entX, ?_⟩
   refine RH.cmpT 4 rfl krX krX krX krX (Wanted.free rfl) (V.bin rfl rfl rfl B.eql) rfl rfl ?_
   refine RH.val 5 rfl krX krX krX krX (Wanted.free rfl) (V.move rfl rfl) rfl ?_
   refine RH.val 6 rfl krX krX krX krX (Wanted.yes rfl rfl rfl rfl) (V.move rfl rfl) rfl ?_
   refine RH.val 8 rfl krX krX krX krX (Wanted.yes rfl rfl rfl rfl) (V.move rfl rfl) rfl ?_
   refine RH.val 9 rfl krX krX krX krX (Wanted.yes rfl rfl rfl rfl) (V.nilCheck rfl rfl) rfl ?_
   refine RH.val 10 rfl krX krX krX krX (Wanted.yes rfl rfl rfl rfl) (V.fieldAddr rfl rfl fo51_2) rfl ?_
   refine RH.val 11 rfl krX krX krX krX (Wanted.yes rfl rfl rfl rfl) (V.load rfl on3 rfl pickX rfl) rfl ?_
   refine RH.val 12 rfl krX krX krX krX (Wanted.yes rfl rfl rfl rfl) (V.move rfl rfl) rfl ?_
   refine RH.one (i := 7) krX ?_
   refine RHone.eff rfl (Wanted.yes rfl rfl rfl rfl) (E.call rfl go24 rfl (lRoom_ok hgo.ok (b := b66) pickX)) rfl ?_
   rintro _ _ ⟨rfl, rfl⟩
   refine ⟨.inr entX, ?_⟩
   refine RH.one (i := 13) krX ?_
   refine RHone.eff rfl (Wanted.yes rfl rfl rfl rfl) (E.call rfl go26 rfl (room_rd (l := rs) (n := n) (by omega) (by omega) (by omega) (by first | (apply Seen.sl; (· repeat (first | exact List.Mem.head _ | assumption | apply List.Mem.tail))) | (apply Seen.buf; (· repeat (first | exact Pick.here | apply Pick.there)))))) rfl ?_
   rintro _ _ ⟨rfl, rfl⟩
   refine ⟨.inr entX, ?_⟩
   refine RH.cmpT 14 rfl krX krX krX krX (Wanted.yes rfl rfl rfl rfl) (V.bin rfl rfl rfl B.eql) rfl (room_eq hgo) ?_
   refine RH.pure 15 rfl krX krX krX krX (Wanted.free rfl) (V.pick_true rfl rfl rfl) rfl ?_
   refine RH.val 16 rfl krX krX krX krX (Wanted.free rfl) (V.assign rfl rfl) rfl ?_
   refine RH.done krX ?_
   refine SG.retE (Ret.r1 Try.func30 rfl (.tmp rfl)) ?_ ⟨rfl, rfl⟩
   exact entX
  ·
   refine RH.skip 12 rfl krX krX krX krX (Wanted.no rfl rfl rfl rfl rfl) rfl ?_
   refine RH.skip 13 rfl krX krX krX krX (Wanted.no rfl rfl rfl rfl rfl) rfl ?_
   refine RH.skip 14 rfl krX krX krX krX (Wanted.no rfl rfl rfl rfl rfl) rfl ?_
   refine RH.skip 15 rfl krX krX krX krX (Wanted.no rfl rfl rfl rfl rfl) rfl ?_
   refine RH.skip 16 rfl krX krX krX krX (Wanted.no rfl rfl rfl rfl rfl) rfl ?_
   refine RH.skip 17 rfl krX krX krX krX (Wanted.un rfl rfl rfl) rfl ?_
   refine RH.skip 18 rfl krX krX krX krX (Wanted.un rfl rfl rfl) rfl ?_
   refine RH.skip 19 rfl krX krX krX krX (Wanted.un rfl rfl rfl) rfl ?_
   refine RH.skip 20 rfl krX krX krX krX (Wanted.no rfl rfl rfl rfl rfl) rfl ?_
   refine RH.skip 21 rfl krX krX krX krX (Wanted.no rfl rfl rfl rfl rfl) rfl ?_
   refine RH.pure 22 rfl krX krX krX krX (Wanted.free rfl) (V.pick_false rfl rfl rfl) rfl ?_
   refine RH.done krX ?_
   refine SG.cond_false rfl ?_
   refine SG.skip ?_
   refine SG.seq ?_
   refine SG.region ?_
   refine RL.val (Wanted.free rfl) (V.move rfl rfl) rfl ?_
   refine RL.val (Wanted.free rfl) (V.move rfl rfl) rfl ?_
   refine RL.val (Wanted.free rfl) (V.nilCheck rfl rfl) rfl ?_
   refine RL.val (Wanted.free rfl) (V.fieldAddr rfl rfl fo51_1) rfl ?_
   refine RL.eff (Wanted.free rfl) (E.store1 rfl rfl rfl rfl rfl sz31 pickX rfl) rfl ?_
   rintro _ _ rfl
   refine RL.nil ?_
   refine SG.seq ?_
   skip
   refine SG.region ?_
   refine RL.val (Wanted.free rfl) (V.move rfl rfl) rfl ?_
   refine RL.val (Wanted.free rfl) (V.move rfl rfl) rfl ?_
   refine RL.eff (Wanted.free rfl) (E.call rfl go51 rfl (copied_ok (l := rs) (a := a76) memX (by omega) (fun r hr => by have := hB.each r hr; omega))) rfl ?_
   rintro _ _ ⟨a106, c106, rfl, rfl⟩
   refine RL.val (Wanted.free rfl) (V.nilCheck rfl rfl) rfl ?_
   refine RL.val (Wanted.free rfl) (V.fieldAddr rfl rfl fo51_3) rfl ?_
   refine RL.eff (Wanted.free rfl) (E.store1 rfl rfl rfl rfl rfl sz39 pickX rfl) rfl ?_
   rintro _ _ rfl
   refine RL.nil ?_
   refine SG.seq ?_
   refine SG.region ?_
   refine RL.val (Wanted.free rfl) (V.move rfl rfl) rfl ?_
   refine RL.val (Wanted.free rfl) (V.move rfl rfl) rfl ?_
   refine RL.val (Wanted.free rfl) (V.len rfl rfl el39.under rfl) rfl ?_
   refine RL.val (Wanted.free rfl) (V.nilCheck rfl rfl) rfl ?_
   refine RL.val (Wanted.free rfl) (V.fieldAddr rfl rfl fo51_4) rfl ?_
   refine RL.eff (Wanted.free rfl) (E.store1 rfl rfl rfl rfl rfl sz3 pickX rfl) rfl ?_
   rintro _ _ rfl
   refine RL.nil ?_
   refine SG.seq ?_
   refine SG.drawL 17 17 wide rfl rfl ?_
   refine RH.val 0 rfl krX krX krX krX (Wanted.free rfl) (V.move rfl rfl) rfl ?_
   refine RH.val 2 rfl krX krX krX krX (Wanted.free rfl) (V.move rfl rfl) rfl ?_
   refine RH.val 3 rfl krX krX krX krX (Wanted.free rfl) (V.len rfl rfl el39.under rfl) rfl ?_
   refine RH.one (i := 1) krX ?_
   refine RHone.eff rfl (Wanted.free rfl) (E.call rfl go48 rfl (lSynced_ok hgo.ok (b := b66) pickX)) rfl ?_
   rintro _ _ ⟨rfl, rfl⟩
   refine ⟨.inr entX, ?_⟩
   refine RH.cmpT 4 rfl krX krX krX krX (Wanted.free rfl) (V.bin rfl rfl rfl B.eql) rfl rfl ?_
   refine RH.val 5 rfl krX krX krX krX (Wanted.free rfl) (V.move rfl rfl) rfl ?_
   refine RH.val 6 rfl krX krX krX krX (Wanted.yes rfl rfl rfl rfl) (V.move rfl rfl) rfl ?_
   refine RH.val 8 rfl krX krX krX krX (Wanted.yes rfl rfl rfl rfl) (V.move rfl rfl) rfl ?_
   refine RH.val 9 rfl krX krX krX krX (Wanted.yes rfl rfl rfl rfl) (V.nilCheck rfl rfl) rfl ?_
   refine RH.val 10 rfl krX krX krX krX (Wanted.yes rfl rfl rfl rfl) (V.fieldAddr rfl rfl fo51_2) rfl ?_
   refine RH.val 11 rfl krX krX krX krX (Wanted.yes rfl rfl rfl rfl) (V.load rfl on3 rfl pickX rfl) rfl ?_
   refine RH.val 12 rfl krX krX krX krX (Wanted.yes rfl rfl rfl rfl) (V.move rfl rfl) rfl ?_
   refine RH.one (i := 7) krX ?_
   refine RHone.eff rfl (Wanted.yes rfl rfl rfl rfl) (E.call rfl go24 rfl (lRoom_ok hgo.ok (b := b66) pickX)) rfl ?_
   rintro _ _ ⟨rfl, rfl⟩
   refine ⟨.inr entX, ?_⟩
   refine RH.one (i := 13) krX ?_
   refine RHone.eff rfl (Wanted.yes rfl rfl rfl rfl) (E.call rfl go26 rfl (room_rd (l := rs) (n := n) (by omega) (by omega) (by omega) (by first | (apply Seen.sl; (· repeat (first | exact List.Mem.head _ | assumption | apply List.Mem.tail))) | (apply Seen.buf; (· repeat (first | exact Pick.here | apply Pick.there)))))) rfl ?_
   rintro _ _ ⟨rfl, rfl⟩
   refine ⟨.inr entX, ?_⟩
   refine RH.cmpT 14 rfl krX krX krX krX (Wanted.yes rfl rfl rfl rfl) (V.bin rfl rfl rfl B.eql) rfl (room_eq hgo) ?_
   refine RH.pure 15 rfl krX krX krX krX (Wanted.free rfl) (V.pick_true rfl rfl rfl) rfl ?_
   refine RH.val 16 rfl krX krX krX krX (Wanted.free rfl) (V.assign rfl rfl) rfl ?_
   refine RH.done krX ?_
   refine SG.retE (Ret.r1 Try.func30 rfl (.tmp rfl)) ?_ ⟨rfl, rfl⟩
   exact entX
 ·
  refine SG.block ?_
  refine SG.weaken (SG.loop2 (fun m9 al M => ∃ (i : Nat) (g : Lg) (D : Dk) (rst : Bool), i ≤ 20 ∧ m9 = 20 - i ∧ Pst 1 n g D (1 + i) (60 + 40 * i) rst ∧ al = [(0, ptr b 0), (1, .slice a l.length c), (3, .slice at_ nt ct), (9, vI i)] ∧ M = Past b lb db g rst :: Dsk db D :: L2) (m0 := _) ⟨0, g, D.blow fz, false, by omega, rfl, (hP.blow (by omega)).mono (by omega) (by omega), rfl, rfl⟩ ?_) ?_ ?_
  rotate_left
  ·
   repeat (first | exact EnvLe.nil _ | refine EnvLe.cons rfl ?_)
  ·
   refine Past.ent (xa := xa) (xn := xn) (xc := xc) ?_
   exact entX
  rintro _ _ _ ⟨i, g, D, rst, hi, rfl, hP, rfl, rfl⟩ ih0
  refine SG.openPast (b := b) (lb := lb) (g := g) (rst := rst) pickX fun xa xn xc => ?_
  refine SG.seq ?_
  refine SG.seq ?_
  refine SG.region ?_
  refine RL.val (Wanted.free rfl) (V.move rfl rfl) rfl ?_
  refine RL.val (Wanted.free rfl) (V.move rfl rfl) rfl ?_
  refine RL.val (Wanted.free rfl) (V.len rfl rfl el38.under rfl) rfl ?_
  refine RL.cmp (Wanted.free rfl) (V.bin rfl rfl rfl B.lss) rfl (fun h128 => ?_) (fun h128 => ?_)
  ·
   refine RL.val (Wanted.free rfl) (V.move rfl rfl) rfl ?_
   refine RL.val (Wanted.yes rfl rfl rfl rfl) (V.move rfl rfl) rfl ?_
   refine RL.cmp (Wanted.yes rfl rfl rfl rfl) (V.bin rfl rfl rfl B.lss) rfl (fun h131 => ?_) (fun h131 => ?_)
   ·
    refine RL.val (Wanted.free rfl) (V.pick_true rfl rfl rfl) rfl ?_
    refine RL.val (Wanted.free rfl) (V.move rfl rfl) rfl ?_
    refine RL.val (Wanted.yes rfl rfl rfl rfl) (V.move rfl rfl) rfl ?_
    refine RL.val (Wanted.yes rfl rfl rfl rfl) (V.nilCheck rfl rfl) rfl ?_
    refine RL.val (Wanted.yes rfl rfl rfl rfl) (V.fieldAddr rfl rfl fo51_0) rfl ?_
    refine RL.val (Wanted.yes rfl rfl rfl rfl) (V.load rfl on23 rfl pickX rfl) rfl ?_
    refine RL.eff (Wanted.yes rfl rfl rfl rfl) (E.call rfl go35 rfl (dOn_ok hP.ok (b := db) pickX)) rfl ?_
    rintro _ _ ⟨rfl, rfl⟩
    refine RL.val (Wanted.free rfl) (V.pick_true rfl rfl rfl) rfl ?_
    refine RL.nil ?_
    refine SG.cond rfl (fun h138 => ?_) (fun h138 => ?_)
    ·
     have hon : D.off = false := by simpa using h138
     refine SG.skip ?_
     refine SG.seq ?_
     refine SG.block ?_
     refine SG.seq ?_
     refine SG.ent (Past.ent (b := b) (lb := lb) (db := db) (g := g) (rst := rst) (xa := xa) (xn := xn) (xc := xc) (by repeat (first | exact Ent.refl _ | (apply Ent.cons; (· repeat (first | exact Pick.here | (refine Pick.sl ?_; (· repeat (first | exact List.Mem.head _ | assumption | apply List.Mem.tail))) | apply Pick.there))) | (refine Ent.trans (Ent.drop _ _) ?_)))) ?_
     obtain ⟨o, ho⟩ : ∃ o, l[i]? = some o := ⟨_, List.getElem?_eq_getElem (by omega)⟩
     refine SG.elemAct (a := a) memX ho fun ab mb cb hok => ?_
     refine SG.region ?_
     refine RL.val (Wanted.free rfl) (V.move rfl rfl) rfl ?_
     refine RL.val (Wanted.free rfl) (V.move rfl rfl) rfl ?_
     refine RL.val (Wanted.free rfl) (V.move rfl rfl) rfl ?_
     refine RL.val (Wanted.free rfl) (V.indexSl (j := i) rfl el38.slice rfl rfl memX (by first | rfl | omega) (by omega)) rfl ?_
     refine RL.val (Wanted.free rfl) (V.loadAt rfl ag42 rfl memX rfl) rfl ?_
     refine RL.eff (Wanted.free rfl) (E.call rfl go32 rfl (act_ok hP hon (by omega) (by omega) (b := b) (lb := lb) (db := db) pickX pickX hok (ab := ab) (mb := mb) (cb := cb) memX)) rfl ?_
     rintro _ _ ⟨g2, D2, r2, hA, rfl, rfl⟩
     refine RL.val (Wanted.free rfl) (V.not rfl rfl) rfl ?_
     refine RL.nil ?_
     refine SG.cond_false rfl ?_
     refine SG.skip ?_
     refine SG.inBlock ?_
     refine SG.region ?_
     refine RL.val (Wanted.free rfl) (V.move rfl rfl) rfl ?_
     refine RL.val (Wanted.free rfl) (V.bin rfl rfl rfl (B.addI (by omega) (by omega))) rfl ?_
     refine RL.val (Wanted.free rfl) (V.assign rfl rfl) rfl ?_
     refine RL.nil ?_
     refine SG.weaken (ih0 _ _ _ ?_ ⟨i + 1, g2, D2, r2, by omega, rfl, hA.st.mono (by omega) (by omega), rfl, rfl⟩) ?_ ?_
     ·
      omega
     ·
      repeat (first | exact EnvLe.nil _ | refine EnvLe.cons rfl ?_)
     ·
      exact entX
    ·
     refine SG.exit rfl ?_
     refine SG.weaken (rest ⟨g, D, rst⟩ (hP.mono (by omega) (by omega))) ?_ ?_
     ·
      repeat (first | exact EnvLe.nil _ | refine EnvLe.cons rfl ?_)
     ·
      refine Past.ent (xa := xa) (xn := xn) (xc := xc) ?_
      exact entX
   ·
    refine RL.val (Wanted.free rfl) (V.pick_true rfl rfl rfl) rfl ?_
    refine RL.val (Wanted.free rfl) (V.move rfl rfl) rfl ?_
    refine RL.skip (Wanted.no rfl rfl rfl rfl rfl) rfl ?_
    refine RL.skip (Wanted.no rfl rfl rfl rfl rfl) rfl ?_
    refine RL.skip (Wanted.no rfl rfl rfl rfl rfl) rfl ?_
    refine RL.skip (Wanted.no rfl rfl rfl rfl rfl) rfl ?_
    refine RL.skip (Wanted.no rfl rfl rfl rfl rfl) rfl ?_
    refine RL.val (Wanted.free rfl) (V.pick_false rfl rfl rfl) rfl ?_
    refine RL.nil ?_
    refine SG.cond_false rfl ?_
    refine SG.exit rfl ?_
    refine SG.weaken (rest ⟨g, D, rst⟩ (hP.mono (by omega) (by omega))) ?_ ?_
    ·
     repeat (first | exact EnvLe.nil _ | refine EnvLe.cons rfl ?_)
    ·
     refine Past.ent (xa := xa) (xn := xn) (xc := xc) ?_
     exact entX
  ·
   refine RL.val (Wanted.free rfl) (V.move rfl rfl) rfl ?_
   refine RL.skip (Wanted.no rfl rfl rfl rfl rfl) rfl ?_
   refine RL.skip (Wanted.no rfl rfl rfl rfl rfl) rfl ?_
   refine RL.val (Wanted.free rfl) (V.pick_false rfl rfl rfl) rfl ?_
   refine RL.val (Wanted.free rfl) (V.move rfl rfl) rfl ?_
   refine RL.skip (Wanted.no rfl rfl rfl rfl rfl) rfl ?_
   refine RL.skip (Wanted.no rfl rfl rfl rfl rfl) rfl ?_
   refine RL.skip (Wanted.no rfl rfl rfl rfl rfl) rfl ?_
   refine RL.skip (Wanted.no rfl rfl rfl rfl rfl) rfl ?_
   refine RL.skip (Wanted.no rfl rfl rfl rfl rfl) rfl ?_
   refine RL.val (Wanted.free rfl) (V.pick_false rfl rfl rfl) rfl ?_
   refine RL.nil ?_
   refine SG.cond_false rfl ?_
   refine SG.exit rfl ?_
   refine SG.weaken (rest ⟨g, D, rst⟩ (hP.mono (by omega) (by omega))) ?_ ?_
   ·
    repeat (first | exact EnvLe.nil _ | refine EnvLe.cons rfl ?_)
   ·
    refine Past.ent (xa := xa) (xn := xn) (xc := xc) ?_
    exact entX

end Go.Proofs.Ytnbjonijlkjclaa
