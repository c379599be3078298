/- The walk of WalFormats. -/
import Derived.Test.YtnbjonijlkjclaaWbase2
namespace Go.Proofs.Ytnbjonijlkjclaa
open Go.Wk Go.Wl Go.Dsk

set_option maxRecDepth 100000 in
set_option maxHeartbeats 2000000 in
theorem formats_law {κ : World} {L : List Assn} {s : Int} {again : Bool} {a at_ : Option Addr} {n0 c nt ct : Nat} {l : List ActD} {ts : List Int} (hs : inInt s) (hm : Sl RAct a n0 c l ∈ L) (ht : Sl RI at_ nt ct ts ∈ L) :
    Ctr Try.prog 7 #[vI s, .slice a n0 c, vB again, .slice at_ nt ct] κ L (fun v M => v = vB true ∧ M = L) := by
 refine Ctr.enter (vs := [vI s, .slice a n0 c, vB again, .slice at_ nt ct]) (m := 115) Try.func7 rfl rfl rfl ?_
 refine SG.fact (fun w hs => Sep.slInts hs ht) fun hti => ?_
 refine SG.sl (T := RAct) (a := a) (l := l) memX fun hl hlc hc63 => ?_
 subst hl
 refine SG.seq ?_
 refine SG.region ?_
 refine RL.val (Wanted.free rfl) (V.assign rfl rfl) rfl ?_
 refine RL.nil ?_
 refine SG.seq ?_
 refine SG.region ?_
 refine RL.val (Wanted.free rfl) (V.move rfl rfl) rfl ?_
 refine RL.eff (Wanted.free rfl) (E.call rfl go23 rfl (begin_ok hs)) rfl ?_
 rintro _ _ ⟨q, b, lb, db, g, D, hq, hP, hC, hlen, hrs, hsy, rfl, rfl⟩
 refine RL.val (Wanted.free rfl) (V.assign rfl rfl) rfl ?_
 refine RL.nil ?_
 refine SG.seq ?_
 refine SG.seq ?_
 refine SG.region ?_
 refine RL.val (Wanted.free rfl) (V.move rfl rfl) rfl ?_
 refine RL.cmpF (Wanted.free rfl) (V.eqlPtrNil rfl up48 rfl rfl) rfl (by simp) ?_
 refine RL.nil ?_
 refine SG.cond_false rfl ?_
 refine SG.skip ?_
 refine SG.seq ?_
 refine SG.seq ?_
 have hnn := hP.en
 refine SG.region ?_
 refine RL.val (Wanted.free rfl) (V.move rfl rfl) rfl ?_
 refine RL.nil ?_
 refine SG.cond rfl (fun h7 => ?_) (fun h7 => ?_)
 ·
  refine SG.seq ?_
  refine SG.seq ?_
  refine SG.region ?_
  refine RL.val (Wanted.free rfl) (V.assign rfl rfl) rfl ?_
  refine RL.nil ?_
  refine SG.join (ι := Lg × Dk) (fun ⟨g, D⟩ => [(3, .slice at_ nt ct), (9, ptr b 0)]) (fun ⟨g, D⟩ => Past b lb db g false :: Dsk db D :: L) (fun ⟨g, D⟩ => Pst 1 ((4 + q : Nat) : Int) g D 21 1000 false ∧ D.calm ∧ D.S.length = 4 + q + 2) ?_ (fun rest => ?_)
  ·
   rintro ⟨g, D⟩ ⟨hP, hC, hlen⟩
   try dsimp only
   refine SG.seq ?_
   refine SG.openPast (b := b) (lb := lb) (g := g) (rst := false) pickX fun xa xn xc => ?_
   dsimp only [pc]
   rw [hP.en]
   obtain ⟨hf1, hf2⟩ := fmt_calm hC (hP.chk hC.off)
   have hQ := Pst.format hP.ok hP.m1 hC (hP.chk hC.off) (by decide) (by omega)
   refine SG.drawN 14 14 (Blk b 51 [ptr db 0, ptr lb 0, vI ((4 + q : Nat) : Int), .slice xa xn xc, vI g.synced, vB false] :: L) wide rfl rfl (by repeat (first | exact Ent.refl _ | (apply Ent.cons; (· repeat (first | exact Pick.here | (refine Pick.sl ?_; (· repeat (first | exact List.Mem.head _ | assumption | apply List.Mem.tail))) | apply Pick.there))) | (refine Ent.trans (Ent.drop _ _) ?_))) ?_
   refine RH.val 0 rfl krX krX krX krX (Wanted.free rfl) (V.move rfl rfl) rfl ?_
   refine RH.val 1 rfl krX krX krX krX (Wanted.free rfl) (V.nilCheck rfl rfl) rfl ?_
   refine RH.val 2 rfl krX krX krX krX (Wanted.free rfl) (V.fieldAddr rfl rfl fo51_0) rfl ?_
   refine RH.val 3 rfl krX krX krX krX (Wanted.free rfl) (V.load rfl on23 rfl pickX rfl) rfl ?_
   refine RH.val 4 rfl krX krX krX krX (Wanted.free rfl) (V.move rfl rfl) rfl ?_
   refine RH.val 5 rfl krX krX krX krX (Wanted.free rfl) (V.nilCheck rfl rfl) rfl ?_
   refine RH.val 6 rfl krX krX krX krX (Wanted.free rfl) (V.fieldAddr rfl rfl fo51_2) rfl ?_
   refine RH.val 7 rfl krX krX krX krX (Wanted.free rfl) (V.load rfl on3 rfl pickX rfl) rfl ?_
   refine RH.one (i := 8) krX ?_
   refine RHone.eff rfl (Wanted.free rfl) (E.call rfl go15 rfl (format_good hP.ok hP.m1 (by omega) (db := db) pickX (by unfold inInt; omega) (by unfold inInt; omega) hf1)) rfl ?_
   rintro _ _ ⟨b46, rfl, rfl⟩
   refine ⟨.inr entX, ?_⟩
   obtain ⟨Ef, hE⟩ : ∃ Ef, (fmtR D 1 ((4 + q : Nat) : Int)).1 = Ef := ⟨_, rfl⟩
   rw [hE]
   rw [hE] at hQ hf2
   refine RH.val 9 rfl krX krX krX krX (Wanted.free rfl) (V.move rfl rfl) rfl ?_
   refine RH.val 10 rfl krX krX krX krX (Wanted.free rfl) (V.extract rfl rfl rfl) rfl ?_
   refine RH.val 11 rfl krX krX krX krX (Wanted.free rfl) (V.extract rfl rfl rfl) rfl ?_
   refine RH.val 12 rfl krX krX krX krX (Wanted.free rfl) (V.assign rfl rfl) rfl ?_
   refine RH.val 13 rfl krX krX krX krX (Wanted.free rfl) (V.assign rfl rfl) rfl ?_
   refine RH.done krX ?_
   refine SG.seq ?_
   refine SG.region ?_
   refine RL.val (Wanted.free rfl) (V.move rfl rfl) rfl ?_
   refine RL.cmpF (Wanted.free rfl) (V.bin rfl rfl rfl B.neq) rfl (by simp) ?_
   refine RL.val (Wanted.free rfl) (V.move rfl rfl) rfl ?_
   refine RL.val (Wanted.yes rfl rfl rfl rfl) (V.move rfl rfl) rfl ?_
   refine RL.cmpF (Wanted.yes rfl rfl rfl rfl) (V.eqlPtrNil rfl up31 rfl rfl) rfl (by simp) ?_
   refine RL.val (Wanted.free rfl) (V.pick_false rfl rfl rfl) rfl ?_
   refine RL.val (Wanted.free rfl) (V.move rfl rfl) rfl ?_
   refine RL.val (Wanted.yes rfl rfl rfl rfl) (V.move rfl rfl) rfl ?_
   refine RL.eff (Wanted.yes rfl rfl rfl rfl) (E.call rfl go29 rfl (lRecs_ok hQ.good.ok (b := b46) pickX (fun r hr => by have := hQ.good.each r hr; omega))) rfl ?_
   rintro _ _ ⟨a57, c57, rfl, rfl⟩
   refine RL.val (Wanted.yes rfl rfl rfl rfl) (V.len rfl rfl el39.under rfl) rfl ?_
   refine RL.cmpF (Wanted.yes rfl rfl rfl rfl) (V.bin rfl rfl rfl B.gtr) rfl (by rw [lg0_recs]; decide) ?_
   refine RL.val (Wanted.free rfl) (V.pick_false rfl rfl rfl) rfl ?_
   refine RL.nil ?_
   refine SG.cond_false rfl ?_
   refine SG.skip ?_
   refine SG.seq ?_
   obtain ⟨hr0, hs0⟩ : (lg0 1 ((4 + q : Nat) : Int) 1 0).recs = [] ∧ (lg0 1 ((4 + q : Nat) : Int) 1 0).synced = ((lg0 1 ((4 + q : Nat) : Int) 1 0).recs.length : Int) := ⟨rfl, rfl⟩
   rw [hr0] at hs0
   generalize lg0 1 ((4 + q : Nat) : Int) 1 0 = gq at hQ hr0 hs0 ⊢
   have hlE : Ef.S.length = 4 + q + 2 := hf2.len.trans hlen
   refine SG.region ?_
   refine RL.val (Wanted.free rfl) (V.move rfl rfl) rfl ?_
   refine RL.val (Wanted.free rfl) (V.nilCheck rfl rfl) rfl ?_
   refine RL.val (Wanted.free rfl) (V.fieldAddr rfl rfl fo51_0) rfl ?_
   refine RL.val (Wanted.free rfl) (V.load rfl on23 rfl pickX rfl) rfl ?_
   refine RL.eff (Wanted.free rfl) (E.call rfl go12 rfl (dFuse_ok hQ.ok (b := db) pickX 0 (by omega) (by omega))) rfl ?_
   rintro _ _ ⟨rfl, rfl⟩
   refine RL.nil ?_
   refine SG.seq ?_
   refine SG.drawN 12 12 (Blk b 51 [ptr db 0, ptr lb 0, vI ((4 + q : Nat) : Int), .slice xa xn xc, vI g.synced, vB false] :: L) wide rfl rfl (by repeat (first | exact Ent.refl _ | (apply Ent.cons; (· repeat (first | exact Pick.here | (refine Pick.sl ?_; (· repeat (first | exact List.Mem.head _ | assumption | apply List.Mem.tail))) | apply Pick.there))) | (refine Ent.trans (Ent.drop _ _) ?_))) ?_
   refine RH.val 0 rfl krX krX krX krX (Wanted.free rfl) (V.move rfl rfl) rfl ?_
   refine RH.val 1 rfl krX krX krX krX (Wanted.free rfl) (V.nilCheck rfl rfl) rfl ?_
   refine RH.val 2 rfl krX krX krX krX (Wanted.free rfl) (V.fieldAddr rfl rfl fo51_0) rfl ?_
   refine RH.val 3 rfl krX krX krX krX (Wanted.free rfl) (V.load rfl on23 rfl pickX rfl) rfl ?_
   refine RH.val 4 rfl krX krX krX krX (Wanted.free rfl) (V.move rfl rfl) rfl ?_
   refine RH.val 5 rfl krX krX krX krX (Wanted.free rfl) (V.move rfl rfl) rfl ?_
   refine RH.val 6 rfl krX krX krX krX (Wanted.free rfl) (V.nilCheck rfl rfl) rfl ?_
   refine RH.val 7 rfl krX krX krX krX (Wanted.free rfl) (V.fieldAddr rfl rfl fo51_2) rfl ?_
   refine RH.val 8 rfl krX krX krX krX (Wanted.free rfl) (V.load rfl on3 rfl pickX rfl) rfl ?_
   refine RH.val 9 rfl krX krX krX krX (Wanted.free rfl) (V.bin rfl rfl rfl (B.addI (by omega) (by omega))) rfl ?_
   refine RH.one (i := 10) krX ?_
   refine RHone.eff rfl (Wanted.free rfl) (E.call rfl go31 rfl (torn_ok (l := ts) (a := at_) memX hti (by omega) (by omega))) rfl ?_
   rintro _ _ ⟨a76, m76, c76, us, rfl, rfl⟩
   refine ⟨.inr entX, ?_⟩
   obtain ⟨rs, T2, hB, _, _, _⟩ := (hQ.blow (k := 0) (by decide)).crash (by decide) us
   have hok1 := hQ.ok.blow (n := 0) (by decide)
   have hok2 := hok1.restart hQ.m1 us
   have hrs0 := back_full hB (by rw [hr0]; exact hs0)
   rw [hr0] at hrs0
   subst hrs0
   have hlen2 : ((Ef.blow 0).restart us).S.length = Ef.S.length := by rw [restart_len, blow_S]
   have hlen3 := hQ.len
   have hcv : checkV ((Ef.blow 0).restart us) 1 ((4 + q : Nat) : Int) = 0 := checkV_zero.2 ⟨by omega, by decide, by omega, by omega, rfl⟩
   have hgo := lgO_good (by decide) (by decide) (by omega) (by omega) hB.fits hB.used hB.each
   refine RH.publish (T := RTorn) (a := a76) Pick.here ?_
   refine RH.one (i := 11) krX ?_
   refine RHone.eff rfl (Wanted.free rfl) (E.call rfl go27 rfl (dRestart_ok hok1 (b := db) pickX (ts := us) memX hQ.m1 (by have := hQ.m1; omega))) rfl ?_
   rintro _ _ ⟨rfl, rfl⟩
   refine ⟨.inr entX, ?_⟩
   refine RH.done krX ?_
   refine SG.seq ?_
   refine SG.drawL 14 14 wide rfl rfl ?_
   refine RH.val 0 rfl krX krX krX krX (Wanted.free rfl) (V.move rfl rfl) rfl ?_
   refine RH.val 1 rfl krX krX krX krX (Wanted.free rfl) (V.nilCheck rfl rfl) rfl ?_
   refine RH.val 2 rfl krX krX krX krX (Wanted.free rfl) (V.fieldAddr rfl rfl fo51_0) rfl ?_
   refine RH.val 3 rfl krX krX krX krX (Wanted.free rfl) (V.load rfl on23 rfl pickX rfl) rfl ?_
   refine RH.val 4 rfl krX krX krX krX (Wanted.free rfl) (V.move rfl rfl) rfl ?_
   refine RH.val 5 rfl krX krX krX krX (Wanted.free rfl) (V.nilCheck rfl rfl) rfl ?_
   refine RH.val 6 rfl krX krX krX krX (Wanted.free rfl) (V.fieldAddr rfl rfl fo51_2) rfl ?_
   refine RH.val 7 rfl krX krX krX krX (Wanted.free rfl) (V.load rfl on3 rfl pickX rfl) rfl ?_
   refine RH.one (i := 8) krX ?_
   refine RHone.eff rfl (Wanted.free rfl) (E.call rfl go14 rfl (open_ok hok2 (by omega) (db := db) pickX (by unfold inInt; omega) (by unfold inInt; omega) hcv hB.fits)) rfl ?_
   rintro _ _ ⟨b87, rfl, rfl⟩
   refine ⟨.inr entX, ?_⟩
   refine RH.val 9 rfl krX krX krX krX (Wanted.free rfl) (V.move rfl rfl) rfl ?_
   refine RH.val 10 rfl krX krX krX krX (Wanted.free rfl) (V.extract rfl rfl rfl) rfl ?_
   refine RH.val 11 rfl krX krX krX krX (Wanted.free rfl) (V.extract rfl rfl rfl) rfl ?_
   refine RH.val 12 rfl krX krX krX krX (Wanted.free rfl) (V.assign rfl rfl) rfl ?_
   refine RH.val 13 rfl krX krX krX krX (Wanted.free rfl) (V.assign rfl rfl) rfl ?_
   refine RH.done krX ?_
   refine SG.seq ?_
   refine SG.ent (Sl.nil (T := Rep.slice R8)) ?_
   refine SG.drawL 26 26 wide rfl rfl ?_
   refine RH.val 0 rfl krX krX krX krX (Wanted.free rfl) (V.move rfl rfl) rfl ?_
   refine RH.cmpT 1 rfl krX krX krX krX (Wanted.free rfl) (V.bin rfl rfl rfl B.eql) rfl rfl ?_
   refine RH.val 2 rfl krX krX krX krX (Wanted.free rfl) (V.move rfl rfl) rfl ?_
   refine RH.val 3 rfl krX krX krX krX (Wanted.yes rfl rfl rfl rfl) (V.move rfl rfl) rfl ?_
   refine RH.cmpT 4 rfl krX krX krX krX (Wanted.yes rfl rfl rfl rfl) (V.neqPtrNil rfl up31 rfl rfl) rfl (by simp) ?_
   refine RH.pure 5 rfl krX krX krX krX (Wanted.free rfl) (V.pick_true rfl rfl rfl) rfl ?_
   refine RH.val 6 rfl krX krX krX krX (Wanted.free rfl) (V.move rfl rfl) rfl ?_
   refine RH.val 7 rfl krX krX krX krX (Wanted.yes rfl rfl rfl rfl) (V.move rfl rfl) rfl ?_
   refine RH.one (i := 8) krX ?_
   refine RHone.eff rfl (Wanted.yes rfl rfl rfl rfl) (E.call rfl go29 rfl (lRecs_ok hgo.ok (b := b87) pickX (fun r hr => (by cases hr)))) rfl ?_
   rintro _ _ ⟨a98, c98, rfl, rfl⟩
   refine ⟨.inr entX, ?_⟩
   refine RH.val 9 rfl krX krX krX krX (Wanted.yes rfl rfl rfl rfl) (V.len rfl rfl el39.under rfl) rfl ?_
   refine RH.cmpT 10 rfl krX krX krX krX (Wanted.yes rfl rfl rfl rfl) (V.bin rfl rfl rfl B.eql) rfl rfl ?_
   refine RH.pure 11 rfl krX krX krX krX (Wanted.free rfl) (V.pick_true rfl rfl rfl) rfl ?_
   refine RH.val 12 rfl krX krX krX krX (Wanted.free rfl) (V.move rfl rfl) rfl ?_
   refine RH.val 13 rfl krX krX krX krX (Wanted.yes rfl rfl rfl rfl) (V.move rfl rfl) rfl ?_
   refine RH.val 15 rfl krX krX krX krX (Wanted.yes rfl rfl rfl rfl) (V.move rfl rfl) rfl ?_
   refine RH.val 16 rfl krX krX krX krX (Wanted.yes rfl rfl rfl rfl) (V.nilCheck rfl rfl) rfl ?_
   refine RH.val 17 rfl krX krX krX krX (Wanted.yes rfl rfl rfl rfl) (V.fieldAddr rfl rfl fo51_2) rfl ?_
   refine RH.val 18 rfl krX krX krX krX (Wanted.yes rfl rfl rfl rfl) (V.load rfl on3 rfl pickX rfl) rfl ?_
   refine RH.one (i := 14) krX ?_
   refine RHone.eff rfl (Wanted.yes rfl rfl rfl rfl) (E.call rfl go24 rfl (lRoom_ok hgo.ok (b := b87) pickX)) rfl ?_
   rintro _ _ ⟨rfl, rfl⟩
   refine ⟨.inr entX, ?_⟩
   refine RH.one (i := 19) krX ?_
   refine RHone.eff rfl (Wanted.yes rfl rfl rfl rfl) (E.call rfl go26 rfl (room_rd (l := []) (n := ((4 + q : Nat) : Int)) (by omega) (by omega) (by decide) (by first | (apply Seen.sl; (· repeat (first | exact List.Mem.head _ | assumption | apply List.Mem.tail))) | (apply Seen.buf; (· repeat (first | exact Pick.here | apply Pick.there)))))) rfl ?_
   rintro _ _ ⟨rfl, rfl⟩
   refine ⟨.inr entX, ?_⟩
   refine RH.cmpT 20 rfl krX krX krX krX (Wanted.yes rfl rfl rfl rfl) (V.bin rfl rfl rfl B.eql) rfl (room_eq hgo) ?_
   refine RH.pure 21 rfl krX krX krX krX (Wanted.free rfl) (V.pick_true rfl rfl rfl) rfl ?_
   refine RH.val 22 rfl krX krX krX krX (Wanted.free rfl) (V.move rfl rfl) rfl ?_
   refine RH.one (i := 23) krX ?_
   refine RHone.eff rfl (Wanted.yes rfl rfl rfl rfl) (E.call rfl go17 rfl (lives_ok)) rfl ?_
   rintro _ _ ⟨rfl, rfl⟩
   refine ⟨.inr entX, ?_⟩
   refine RH.pure 24 rfl krX krX krX krX (Wanted.free rfl) (V.pick_true rfl rfl rfl) rfl ?_
   refine RH.val 25 rfl krX krX krX krX (Wanted.free rfl) (V.assign rfl rfl) rfl ?_
   refine RH.done krX ?_
   refine SG.retE (Ret.r1 Try.func7 rfl (.tmp rfl)) ?_ ⟨rfl, rfl⟩
   exact entX
  ·
   refine SG.block ?_
   refine SG.weaken (SG.loop2 (fun m9 al M => ∃ (i : Nat) (g : Lg) (D : Dk), i ≤ 10 ∧ m9 = 10 - i ∧ Pst 1 ((4 + q : Nat) : Int) g D (1 + i) (60 + 40 * i) false ∧ D.calm ∧ D.S.length = 4 + q + 2 ∧ al = [(1, .slice a l.length c), (3, .slice at_ nt ct), (9, ptr b 0), (10, vI i)] ∧ M = Past b lb db g false :: Dsk db D :: L) (m0 := _) ⟨0, g, D, by omega, rfl, hP, hC, hlen, rfl, rfl⟩ ?_) ?_ ?_
   rotate_left
   ·
    repeat (first | exact EnvLe.nil _ | refine EnvLe.cons rfl ?_)
   ·
    exact entX
   rintro _ _ _ ⟨i, g, D, hi, rfl, hP, hC, hlen, rfl, rfl⟩ ih0
   refine SG.seq ?_
   refine SG.seq ?_
   refine SG.region ?_
   refine RL.val (Wanted.free rfl) (V.move rfl rfl) rfl ?_
   refine RL.val (Wanted.free rfl) (V.move rfl rfl) rfl ?_
   refine RL.val (Wanted.free rfl) (V.len rfl rfl el38.under rfl) rfl ?_
   refine RL.cmp (Wanted.free rfl) (V.bin rfl rfl rfl B.lss) rfl (fun h82 => ?_) (fun h82 => ?_)
   ·
    refine RL.val (Wanted.free rfl) (V.move rfl rfl) rfl ?_
    refine RL.val (Wanted.yes rfl rfl rfl rfl) (V.move rfl rfl) rfl ?_
    refine RL.cmp (Wanted.yes rfl rfl rfl rfl) (V.bin rfl rfl rfl B.lss) rfl (fun h85 => ?_) (fun h85 => ?_)
    ·
     refine RL.val (Wanted.free rfl) (V.pick_true rfl rfl rfl) rfl ?_
     refine RL.nil ?_
     refine SG.cond_true rfl ?_
     refine SG.skip ?_
     refine SG.seq ?_
     refine SG.block ?_
     refine SG.seq ?_
     obtain ⟨o, ho⟩ : ∃ o, l[i]? = some o := ⟨_, List.getElem?_eq_getElem (by omega)⟩
     refine SG.elemAct (a := a) memX ho fun ab mb cb hok => ?_
     refine SG.region ?_
     refine RL.val (Wanted.free rfl) (V.move rfl rfl) rfl ?_
     refine RL.val (Wanted.free rfl) (V.move rfl rfl) rfl ?_
     refine RL.val (Wanted.free rfl) (V.move rfl rfl) rfl ?_
     refine RL.val (Wanted.free rfl) (V.indexSl (j := i) rfl el38.slice rfl rfl memX (by first | rfl | omega) (by omega)) rfl ?_
     refine RL.val (Wanted.free rfl) (V.loadAt rfl ag42 rfl memX rfl) rfl ?_
     refine RL.eff (Wanted.free rfl) (E.call rfl go32 rfl (act_ok hP hC.off (by omega) (by omega) (b := b) (lb := lb) (db := db) pickX pickX hok (ab := ab) (mb := mb) (cb := cb) memX)) rfl ?_
     rintro _ _ ⟨g2, D2, r2, hA, rfl, rfl⟩
     obtain rfl : r2 = false := (hA.st.on (hA.calm hC).off).1
     refine RL.val (Wanted.free rfl) (V.not rfl rfl) rfl ?_
     refine RL.nil ?_
     refine SG.cond_false rfl ?_
     refine SG.skip ?_
     refine SG.inBlock ?_
     refine SG.region ?_
     refine RL.val (Wanted.free rfl) (V.move rfl rfl) rfl ?_
     refine RL.val (Wanted.free rfl) (V.bin rfl rfl rfl (B.addI (by omega) (by omega))) rfl ?_
     refine RL.val (Wanted.free rfl) (V.assign rfl rfl) rfl ?_
     refine RL.nil ?_
     refine SG.weaken (ih0 _ _ _ ?_ ⟨i + 1, g2, D2, by omega, rfl, hA.st.mono (by omega) (by omega), hA.calm hC, hA.len.trans hlen, rfl, rfl⟩) ?_ ?_
     ·
      omega
     ·
      repeat (first | exact EnvLe.nil _ | refine EnvLe.cons rfl ?_)
     ·
      exact entX
    ·
     refine RL.val (Wanted.free rfl) (V.pick_true rfl rfl rfl) rfl ?_
     refine RL.nil ?_
     refine SG.cond_false rfl ?_
     refine SG.exit rfl ?_
     refine SG.weaken (rest ⟨g, D⟩ ⟨hP.mono (by omega) (by omega), hC, hlen⟩) ?_ ?_
     ·
      repeat (first | exact EnvLe.nil _ | refine EnvLe.cons rfl ?_)
     ·
      exact entX
   ·
    refine RL.val (Wanted.free rfl) (V.move rfl rfl) rfl ?_
    refine RL.skip (Wanted.no rfl rfl rfl rfl rfl) rfl ?_
    refine RL.skip (Wanted.no rfl rfl rfl rfl rfl) rfl ?_
    refine RL.val (Wanted.free rfl) (V.pick_false rfl rfl rfl) rfl ?_
    refine RL.nil ?_
    refine SG.cond_false rfl ?_
    refine SG.exit rfl ?_
    refine SG.weaken (rest ⟨g, D⟩ ⟨hP.mono (by omega) (by omega), hC, hlen⟩) ?_ ?_
    ·
     repeat (first | exact EnvLe.nil _ | refine EnvLe.cons rfl ?_)
    ·
     exact entX
 ·
  refine SG.skip ?_
  refine SG.seq ?_
  refine SG.openPast (b := b) (lb := lb) (g := g) (rst := false) pickX fun xa xn xc => ?_
  dsimp only [pc]
  rw [hP.en]
  obtain ⟨Ef, hE⟩ : ∃ Ef, D = Ef := ⟨_, rfl⟩
  obtain ⟨gq, hgq⟩ : ∃ gq, g = gq := ⟨_, rfl⟩
  have hQ := hP
  rw [hE] at hQ hlen ⊢
  rw [hgq] at hQ
  have hr0 : gq.recs = [] := by rw [← hgq]; exact hrs
  have hs0 : gq.synced = (([] : List (List UInt8)).length : Int) := by rw [← hgq]; exact hsy
  have hlE : Ef.S.length = 4 + q + 2 := hlen
  refine SG.region ?_
  refine RL.val (Wanted.free rfl) (V.move rfl rfl) rfl ?_
  refine RL.val (Wanted.free rfl) (V.nilCheck rfl rfl) rfl ?_
  refine RL.val (Wanted.free rfl) (V.fieldAddr rfl rfl fo51_0) rfl ?_
  refine RL.val (Wanted.free rfl) (V.load rfl on23 rfl pickX rfl) rfl ?_
  refine RL.eff (Wanted.free rfl) (E.call rfl go12 rfl (dFuse_ok hQ.ok (b := db) pickX 0 (by omega) (by omega))) rfl ?_
  rintro _ _ ⟨rfl, rfl⟩
  refine RL.nil ?_
  refine SG.seq ?_
  refine SG.drawN 12 12 (Blk b 51 [ptr db 0, ptr lb 0, vI ((4 + q : Nat) : Int), .slice xa xn xc, vI g.synced, vB false] :: L) wide rfl rfl (by repeat (first | exact Ent.refl _ | (apply Ent.cons; (· repeat (first | exact Pick.here | (refine Pick.sl ?_; (· repeat (first | exact List.Mem.head _ | assumption | apply List.Mem.tail))) | apply Pick.there))) | (refine Ent.trans (Ent.drop _ _) ?_))) ?_
  refine RH.val 0 rfl krX krX krX krX (Wanted.free rfl) (V.move rfl rfl) rfl ?_
  refine RH.val 1 rfl krX krX krX krX (Wanted.free rfl) (V.nilCheck rfl rfl) rfl ?_
  refine RH.val 2 rfl krX krX krX krX (Wanted.free rfl) (V.fieldAddr rfl rfl fo51_0) rfl ?_
  refine RH.val 3 rfl krX krX krX krX (Wanted.free rfl) (V.load rfl on23 rfl pickX rfl) rfl ?_
  refine RH.val 4 rfl krX krX krX krX (Wanted.free rfl) (V.move rfl rfl) rfl ?_
  refine RH.val 5 rfl krX krX krX krX (Wanted.free rfl) (V.move rfl rfl) rfl ?_
  refine RH.val 6 rfl krX krX krX krX (Wanted.free rfl) (V.nilCheck rfl rfl) rfl ?_
  refine RH.val 7 rfl krX krX krX krX (Wanted.free rfl) (V.fieldAddr rfl rfl fo51_2) rfl ?_
  refine RH.val 8 rfl krX krX krX krX (Wanted.free rfl) (V.load rfl on3 rfl pickX rfl) rfl ?_
  refine RH.val 9 rfl krX krX krX krX (Wanted.free rfl) (V.bin rfl rfl rfl (B.addI (by omega) (by omega))) rfl ?_
  refine RH.one (i := 10) krX ?_
  refine RHone.eff rfl (Wanted.free rfl) (E.call rfl go31 rfl (torn_ok (l := ts) (a := at_) memX hti (by omega) (by omega))) rfl ?_
  rintro _ _ ⟨a76, m76, c76, us, rfl, rfl⟩
  refine ⟨.inr entX, ?_⟩
  obtain ⟨rs, T2, hB, _, _, _⟩ := (hQ.blow (k := 0) (by decide)).crash (by decide) us
  have hok1 := hQ.ok.blow (n := 0) (by decide)
  have hok2 := hok1.restart hQ.m1 us
  have hrs0 := back_full hB (by rw [hr0]; exact hs0)
  rw [hr0] at hrs0
  subst hrs0
  have hlen2 : ((Ef.blow 0).restart us).S.length = Ef.S.length := by rw [restart_len, blow_S]
  have hlen3 := hQ.len
  have hcv : checkV ((Ef.blow 0).restart us) 1 ((4 + q : Nat) : Int) = 0 := checkV_zero.2 ⟨by omega, by decide, by omega, by omega, rfl⟩
  have hgo := lgO_good (by decide) (by decide) (by omega) (by omega) hB.fits hB.used hB.each
  refine RH.publish (T := RTorn) (a := a76) Pick.here ?_
  refine RH.one (i := 11) krX ?_
  refine RHone.eff rfl (Wanted.free rfl) (E.call rfl go27 rfl (dRestart_ok hok1 (b := db) pickX (ts := us) memX hQ.m1 (by have := hQ.m1; omega))) rfl ?_
  rintro _ _ ⟨rfl, rfl⟩
  refine ⟨.inr entX, ?_⟩
  refine RH.done krX ?_
  refine SG.seq ?_
  refine SG.drawL 14 14 wide rfl rfl ?_
  refine RH.val 0 rfl krX krX krX krX (Wanted.free rfl) (V.move rfl rfl) rfl ?_
  refine RH.val 1 rfl krX krX krX krX (Wanted.free rfl) (V.nilCheck rfl rfl) rfl ?_
  refine RH.val 2 rfl krX krX krX krX (Wanted.free rfl) (V.fieldAddr rfl rfl fo51_0) rfl ?_
  refine RH.val 3 rfl krX krX krX krX (Wanted.free rfl) (V.load rfl on23 rfl pickX rfl) rfl ?_
  refine RH.val 4 rfl krX krX krX krX (Wanted.free rfl) (V.move rfl rfl) rfl ?_
  refine RH.val 5 rfl krX krX krX krX (Wanted.free rfl) (V.nilCheck rfl rfl) rfl ?_
  refine RH.val 6 rfl krX krX krX krX (Wanted.free rfl) (V.fieldAddr rfl rfl fo51_2) rfl ?_
  refine RH.val 7 rfl krX krX krX krX (Wanted.free rfl) (V.load rfl on3 rfl pickX rfl) rfl ?_
  refine RH.one (i := 8) krX ?_
  refine RHone.eff rfl (Wanted.free rfl) (E.call rfl go14 rfl (open_ok hok2 (by omega) (db := db) pickX (by unfold inInt; omega) (by unfold inInt; omega) hcv hB.fits)) rfl ?_
  rintro _ _ ⟨b87, rfl, rfl⟩
  refine ⟨.inr entX, ?_⟩
  refine RH.val 9 rfl krX krX krX krX (Wanted.free rfl) (V.move rfl rfl) rfl ?_
  refine RH.val 10 rfl krX krX krX krX (Wanted.free rfl) (V.extract rfl rfl rfl) rfl ?_
  refine RH.val 11 rfl krX krX krX krX (Wanted.free rfl) (V.extract rfl rfl rfl) rfl ?_
  refine RH.val 12 rfl krX krX krX krX (Wanted.free rfl) (V.assign rfl rfl) rfl ?_
  refine RH.val 13 rfl krX krX krX krX (Wanted.free rfl) (V.assign rfl rfl) rfl ?_
  refine RH.done krX ?_
  refine SG.seq ?_
  refine SG.ent (Sl.nil (T := Rep.slice R8)) ?_
  refine SG.drawL 26 26 wide rfl rfl ?_
  refine RH.val 0 rfl krX krX krX krX (Wanted.free rfl) (V.move rfl rfl) rfl ?_
  refine RH.cmpT 1 rfl krX krX krX krX (Wanted.free rfl) (V.bin rfl rfl rfl B.eql) rfl rfl ?_
  refine RH.val 2 rfl krX krX krX krX (Wanted.free rfl) (V.move rfl rfl) rfl ?_
  refine RH.val 3 rfl krX krX krX krX (Wanted.yes rfl rfl rfl rfl) (V.move rfl rfl) rfl ?_
  refine RH.cmpT 4 rfl krX krX krX krX (Wanted.yes rfl rfl rfl rfl) (V.neqPtrNil rfl up31 rfl rfl) rfl (by simp) ?_
  refine RH.pure 5 rfl krX krX krX krX (Wanted.free rfl) (V.pick_true rfl rfl rfl) rfl ?_
  refine RH.val 6 rfl krX krX krX krX (Wanted.free rfl) (V.move rfl rfl) rfl ?_
  refine RH.val 7 rfl krX krX krX krX (Wanted.yes rfl rfl rfl rfl) (V.move rfl rfl) rfl ?_
  refine RH.one (i := 8) krX ?_
  refine RHone.eff rfl (Wanted.yes rfl rfl rfl rfl) (E.call rfl go29 rfl (lRecs_ok hgo.ok (b := b87) pickX (fun r hr => (by cases hr)))) rfl ?_
  rintro _ _ ⟨a98, c98, rfl, rfl⟩
  refine ⟨.inr entX, ?_⟩
  refine RH.val 9 rfl krX krX krX krX (Wanted.yes rfl rfl rfl rfl) (V.len rfl rfl el39.under rfl) rfl ?_
  refine RH.cmpT 10 rfl krX krX krX krX (Wanted.yes rfl rfl rfl rfl) (V.bin rfl rfl rfl B.eql) rfl rfl ?_
  refine RH.pure 11 rfl krX krX krX krX (Wanted.free rfl) (V.pick_true rfl rfl rfl) rfl ?_
  refine RH.val 12 rfl krX krX krX krX (Wanted.free rfl) (V.move rfl rfl) rfl ?_
  refine RH.val 13 rfl krX krX krX krX (Wanted.yes rfl rfl rfl rfl) (V.move rfl rfl) rfl ?_
  refine RH.val 15 rfl krX krX krX krX (Wanted.yes rfl rfl rfl rfl) (V.move rfl rfl) rfl ?_
  refine RH.val 16 rfl krX krX krX krX (Wanted.yes rfl rfl rfl rfl) (V.nilCheck rfl rfl) rfl ?_
  refine RH.val 17 rfl krX krX krX krX (Wanted.yes rfl rfl rfl rfl) (V.fieldAddr rfl rfl fo51_2) rfl ?_
  refine RH.val 18 rfl krX krX krX krX (Wanted.yes rfl rfl rfl rfl) (V.load rfl on3 rfl pickX rfl) rfl ?_
  refine RH.one (i := 14) krX ?_
  refine RHone.eff rfl (Wanted.yes rfl rfl rfl rfl) (E.call rfl go24 rfl (lRoom_ok hgo.ok (b := b87) pickX)) rfl ?_
  rintro _ _ ⟨rfl, rfl⟩
  refine ⟨.inr entX, ?_⟩
  refine RH.one (i := 19) krX ?_
  refine RHone.eff rfl (Wanted.yes rfl rfl rfl rfl) (E.call rfl go26 rfl (room_rd (l := []) (n := ((4 + q : Nat) : Int)) (by omega) (by omega) (by decide) (by first | (apply Seen.sl; (· repeat (first | exact List.Mem.head _ | assumption | apply List.Mem.tail))) | (apply Seen.buf; (· repeat (first | exact Pick.here | apply Pick.there)))))) rfl ?_
  rintro _ _ ⟨rfl, rfl⟩
  refine ⟨.inr entX, ?_⟩
  refine RH.cmpT 20 rfl krX krX krX krX (Wanted.yes rfl rfl rfl rfl) (V.bin rfl rfl rfl B.eql) rfl (room_eq hgo) ?_
  refine RH.pure 21 rfl krX krX krX krX (Wanted.free rfl) (V.pick_true rfl rfl rfl) rfl ?_
  refine RH.val 22 rfl krX krX krX krX (Wanted.free rfl) (V.move rfl rfl) rfl ?_
  refine RH.one (i := 23) krX ?_
  refine RHone.eff rfl (Wanted.yes rfl rfl rfl rfl) (E.call rfl go17 rfl (lives_ok)) rfl ?_
  rintro _ _ ⟨rfl, rfl⟩
  refine ⟨.inr entX, ?_⟩
  refine RH.pure 24 rfl krX krX krX krX (Wanted.free rfl) (V.pick_true rfl rfl rfl) rfl ?_
  refine RH.val 25 rfl krX krX krX krX (Wanted.free rfl) (V.assign rfl rfl) rfl ?_
  refine RH.done krX ?_
  refine SG.retE (Ret.r1 Try.func7 rfl (.tmp rfl)) ?_ ⟨rfl, rfl⟩
  exact entX

end Go.Proofs.Ytnbjonijlkjclaa
