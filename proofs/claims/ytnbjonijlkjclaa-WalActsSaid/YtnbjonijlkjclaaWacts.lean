/- The walk of WalActs. -/
import Derived.Test.YtnbjonijlkjclaaLives
import Derived.Test.YtnbjonijlkjclaaHist
import Derived.Test.YtnbjonijlkjclaaSyncs
import Derived.Test.YtnbjonijlkjclaaReset
namespace Go.Proofs.Ytnbjonijlkjclaa
open Go.Wk Go.Wl Go.Dsk

set_option maxRecDepth 100000 in
set_option maxHeartbeats 2000000 in
theorem acts_law {κ : World} {L : List Assn} {s : Int} {a : Option Addr} {n0 c : Nat} {l : List ActD} (hs : inInt s) (hm : Sl RAct a n0 c l ∈ L) :
    Ctr Try.prog 4 #[vI s, .slice a n0 c] κ L (fun v M => v = vB true ∧ M = L) := by
 refine Ctr.enter (vs := [vI s, .slice a n0 c]) (m := 121) Try.func4 rfl rfl rfl ?_
 refine SG.sl hm fun hl hlc hc63 => ?_
 subst hl
 refine SG.seq ?_
 refine SG.region ?_
 refine RL.val (Wanted.free rfl) (V.assign rfl rfl) rfl ?_
 refine RL.nil ?_
 refine SG.seq ?_
 refine SG.region ?_
 refine RL.val (Wanted.free rfl) (V.move rfl rfl) rfl ?_
 refine RL.eff (Wanted.free rfl) (E.call rfl go9 rfl (around_ok _ _ hs.1 hs.2 (by omega))) rfl ?_
 rintro _ _ ⟨rfl, hM⟩
 rw [hM]
 obtain ⟨q, hq, hq2⟩ := aroundV_nat (n := s) (most := 16) (by omega)
 rw [hq]
 refine RL.val (Wanted.free rfl) (V.bin rfl rfl rfl (B.addI (by omega) (by omega))) rfl ?_
 rw [show (4 : Int) + (q : Int) = ((4 + q : Nat) : Int) from by omega]
 refine RL.val (Wanted.free rfl) (V.assign rfl rfl) rfl ?_
 refine RL.nil ?_
 refine SG.seq ?_
 refine SG.region ?_
 refine RL.val (Wanted.free rfl) (V.move rfl rfl) rfl ?_
 refine RL.val (Wanted.free rfl) (V.bin rfl rfl rfl (B.addI (by omega) (by omega))) rfl ?_
 rw [show ((4 + q : Nat) : Int) + 3 = ((4 + q + 3 : Nat) : Int) from by omega]
 refine RL.eff (Wanted.free rfl) (E.call rfl go10 rfl (made_ok (n := 4 + q + 3) (by omega) (by omega))) rfl ?_
 rintro _ _ ⟨b22, rfl, rfl⟩
 refine RL.val (Wanted.free rfl) (V.assign rfl rfl) rfl ?_
 refine RL.nil ?_
 refine SG.seq ?_
 refine SG.seq ?_
 refine SG.region ?_
 refine RL.val (Wanted.free rfl) (V.move rfl rfl) rfl ?_
 refine RL.cmpF (Wanted.free rfl) (V.eqlPtrNil rfl up23 rfl rfl) rfl (by simp) ?_
 refine RL.nil ?_
 refine SG.cond_false rfl ?_
 refine SG.skip ?_
 refine SG.seq ?_
 have hF0 := fresh_ok (n := 4 + q + 3) (by omega) (by omega)
 have hv0 : checkV (fresh (4 + q + 3)) 2 ((4 + q : Nat) : Int) = 0 := checkV_zero.2 ⟨by omega, by omega, by rw [fresh_len]; omega, by rw [fresh_len]; omega, rfl⟩
 obtain ⟨hf1, hf2⟩ := fmt_calm (fresh_calm _) hv0
 have hP0 := Pst.format hF0 (by decide) (fresh_calm _) hv0 (by decide) (by omega)
 refine SG.region ?_
 refine RL.val (Wanted.free rfl) (V.move rfl rfl) rfl ?_
 refine RL.val (Wanted.free rfl) (V.move rfl rfl) rfl ?_
 refine RL.eff (Wanted.free rfl) (E.call rfl go15 rfl (format_good hF0 (by decide) (by decide) (db := b22) pickX (by unfold inInt; omega) (by unfold inInt; omega) hf1)) rfl ?_
 rintro _ _ ⟨b28, rfl, rfl⟩
 refine RL.val (Wanted.free rfl) (V.move rfl rfl) rfl ?_
 refine RL.val (Wanted.free rfl) (V.extract rfl rfl rfl) rfl ?_
 refine RL.val (Wanted.free rfl) (V.extract rfl rfl rfl) rfl ?_
 refine RL.val (Wanted.free rfl) (V.assign rfl rfl) rfl ?_
 refine RL.val (Wanted.free rfl) (V.assign rfl rfl) rfl ?_
 refine RL.nil ?_
 refine SG.seq ?_
 refine SG.region ?_
 refine RL.val (Wanted.free rfl) (V.assign rfl rfl) rfl ?_
 refine RL.nil ?_
 refine SG.seq ?_
 refine SG.region ?_
 refine RL.val (Wanted.free rfl) (V.assign rfl rfl) rfl ?_
 refine RL.nil ?_
 refine SG.seq ?_
 refine SG.seq ?_
 refine SG.ent (Buf.nil (T := Rep.slice R8) (e := 35)) ?_
 refine SG.region ?_
 refine RL.val (Wanted.free rfl) (V.move rfl rfl) rfl ?_
 refine RL.cmpF (Wanted.free rfl) (V.bin rfl rfl rfl B.neq) rfl (by simp) ?_
 refine RL.val (Wanted.free rfl) (V.move rfl rfl) rfl ?_
 refine RL.val (Wanted.yes rfl rfl rfl rfl) (V.move rfl rfl) rfl ?_
 refine RL.cmpF (Wanted.yes rfl rfl rfl rfl) (V.eqlPtrNil rfl up31 rfl rfl) rfl (by simp) ?_
 refine RL.val (Wanted.free rfl) (V.pick_false rfl rfl rfl) rfl ?_
 refine RL.val (Wanted.free rfl) (V.move rfl rfl) rfl ?_
 refine RL.val (Wanted.yes rfl rfl rfl rfl) (V.move rfl rfl) rfl ?_
 refine RL.val (Wanted.yes rfl rfl rfl rfl) (V.move rfl rfl) rfl ?_
 refine RL.val (Wanted.yes rfl rfl rfl rfl) (V.move rfl rfl) rfl ?_
 refine RL.eff (Wanted.yes rfl rfl rfl rfl) (E.call rfl go18 rfl (agrees_ok (g := lg0 2 ((4 + q : Nat) : Int) 1 0) hP0.good rfl (Int.le_refl _) pickX pickX)) rfl ?_
 rintro _ _ ⟨rfl, rfl⟩
 refine RL.val (Wanted.yes rfl rfl rfl rfl) (V.not rfl rfl) rfl ?_
 refine RL.val (Wanted.free rfl) (V.pick_false rfl rfl rfl) rfl ?_
 refine RL.nil ?_
 refine SG.cond_false rfl ?_
 refine SG.skip ?_
 refine SG.seq ?_
 refine SG.seq ?_
 refine SG.region ?_
 refine RL.val (Wanted.free rfl) (V.assign rfl rfl) rfl ?_
 refine RL.nil ?_
 refine SG.block ?_
 refine SG.weaken (SG.loop2 (fun m9 al M => ∃ (i lb : Nat) (g : Lg) (D : Dk) (wa : Option Addr) (wn wc : Nat) (s2 : Int), i ≤ 30 ∧ m9 = 30 - i ∧ Pst 2 ((4 + q : Nat) : Int) g D (1 + i) (40 + 40 * i) false ∧ D.calm ∧ s2 ≤ g.synced ∧ al = [(1, .slice a l.length c), (5, vI ((4 + q : Nat) : Int)), (6, ptr b22 0), (7, ptr lb 0), (9, .slice wa wn wc), (10, vI s2), (11, vI i)] ∧ M = Lgm lb b22 g :: Dsk b22 D :: Buf (Rep.slice R8) 35 wa wn wc g.recs :: L) (m0 := _) ⟨0, b28, lg0 2 ((4 + q : Nat) : Int) 1 0, _, none, 0, 0, 0, by omega, rfl, hP0.mono (by omega) (by omega), hf2.calm, Int.le_refl _, rfl, rfl⟩ ?_) ?_ ?_
 rotate_left
 ·
  repeat (first | exact EnvLe.nil _ | refine EnvLe.cons rfl ?_)
 ·
  exact entX
 rintro _ _ _ ⟨i, lb, g, D, wa, wn, wc, s2, hi, rfl, hP, hC, hs2, rfl, rfl⟩ ih0
 refine SG.seq ?_
 refine SG.seq ?_
 refine SG.region ?_
 refine RL.val (Wanted.free rfl) (V.move rfl rfl) rfl ?_
 refine RL.val (Wanted.free rfl) (V.move rfl rfl) rfl ?_
 refine RL.val (Wanted.free rfl) (V.len rfl rfl el38.under rfl) rfl ?_
 refine RL.cmp (Wanted.free rfl) (V.bin rfl rfl rfl B.lss) rfl (fun h33 => ?_) (fun h33 => ?_)
 ·
  refine RL.val (Wanted.free rfl) (V.move rfl rfl) rfl ?_
  refine RL.val (Wanted.yes rfl rfl rfl rfl) (V.move rfl rfl) rfl ?_
  refine RL.cmp (Wanted.yes rfl rfl rfl rfl) (V.bin rfl rfl rfl B.lss) rfl (fun h36 => ?_) (fun h36 => ?_)
  ·
   refine RL.val (Wanted.free rfl) (V.pick_true rfl rfl rfl) rfl ?_
   refine RL.nil ?_
   refine SG.cond_true rfl ?_
   refine SG.skip ?_
   refine SG.seq ?_
   refine SG.block ?_
   refine SG.seq ?_
   refine SG.region ?_
   refine RL.val (Wanted.free rfl) (V.assign rfl rfl) rfl ?_
   refine RL.nil ?_
   refine SG.seq ?_
   refine SG.region ?_
   refine RL.val (Wanted.free rfl) (V.assign rfl rfl) rfl ?_
   refine RL.nil ?_
   refine SG.seq ?_
   refine SG.seq ?_
   obtain ⟨o, ho⟩ : ∃ o, l[i]? = some o := ⟨_, List.getElem?_eq_getElem (by omega)⟩
   refine SG.elemAct (a := a) memX ho fun ab mb cb hok => ?_
   refine SG.region ?_
   refine RL.val (Wanted.free rfl) (V.move rfl rfl) rfl ?_
   refine RL.val (Wanted.free rfl) (V.move rfl rfl) rfl ?_
   refine RL.val (Wanted.free rfl) (V.indexSl (j := i) rfl el38.slice rfl rfl memX (by first | rfl | omega) (by omega)) rfl ?_
   refine RL.val (Wanted.free rfl) (V.fieldAt rfl rfl fo42_0 memX) rfl ?_
   refine RL.val (Wanted.free rfl) (V.loadAtF rfl on3 rfl memX rfl) rfl ?_
   refine RL.nil ?_
   refine SG.join (ι := Nat × Lg × Dk × (Option Addr × Nat × Nat) × Int × Int) (fun ⟨lb, g, D, ⟨wa, wn, wc⟩, s2, e⟩ => [(1, .slice a l.length c), (5, vI ((4 + q : Nat) : Int)), (6, ptr b22 0), (7, ptr lb 0), (9, .slice wa wn wc), (10, vI s2), (11, vI i), (12, vI e), (13, vI e)]) (fun ⟨lb, g, D, ⟨wa, wn, wc⟩, s2, e⟩ => Lgm lb b22 g :: Dsk b22 D :: Buf (Rep.slice R8) 35 wa wn wc g.recs :: L) (fun ⟨lb, g, D, ⟨wa, wn, wc⟩, s2, e⟩ => Pst 2 ((4 + q : Nat) : Int) g D (1 + (i + 1)) (40 + 40 * (i + 1)) false ∧ D.calm ∧ s2 ≤ g.synced) ?_ (fun rest => ?_)
   ·
    rintro ⟨lb, g, D, ⟨wa, wn, wc⟩, s2, e⟩ ⟨hP, hC, hs2⟩
    try dsimp only
    refine SG.seq ?_
    refine SG.region ?_
    refine RL.val (Wanted.free rfl) (V.move rfl rfl) rfl ?_
    refine RL.val (Wanted.free rfl) (V.move rfl rfl) rfl ?_
    refine RL.cmpF (Wanted.free rfl) (V.bin rfl rfl rfl B.neq) rfl (by simp) ?_
    refine RL.val (Wanted.free rfl) (V.move rfl rfl) rfl ?_
    refine RL.val (Wanted.yes rfl rfl rfl rfl) (V.move rfl rfl) rfl ?_
    refine RL.val (Wanted.yes rfl rfl rfl rfl) (V.move rfl rfl) rfl ?_
    refine RL.val (Wanted.yes rfl rfl rfl rfl) (V.move rfl rfl) rfl ?_
    refine RL.val (Wanted.yes rfl rfl rfl rfl) (V.move rfl rfl) rfl ?_
    refine RL.eff (Wanted.yes rfl rfl rfl rfl) (E.call rfl go18 rfl (agrees_ok (g := g) hP.good hP.en hs2 pickX pickX)) rfl ?_
    rintro _ _ ⟨rfl, rfl⟩
    refine RL.val (Wanted.yes rfl rfl rfl rfl) (V.not rfl rfl) rfl ?_
    refine RL.val (Wanted.free rfl) (V.pick_false rfl rfl rfl) rfl ?_
    refine RL.nil ?_
    refine SG.cond_false rfl ?_
    refine SG.skip ?_
    refine SG.inBlock ?_
    refine SG.region ?_
    refine RL.val (Wanted.free rfl) (V.move rfl rfl) rfl ?_
    refine RL.val (Wanted.free rfl) (V.bin rfl rfl rfl (B.addI (by omega) (by omega))) rfl ?_
    refine RL.val (Wanted.free rfl) (V.assign rfl rfl) rfl ?_
    refine RL.nil ?_
    refine SG.weaken (ih0 _ _ _ ?_ ⟨i + 1, lb, g, D, wa, wn, wc, s2, by omega, rfl, hP, hC, hs2, rfl, rfl⟩) ?_ ?_
    ·
     omega
    ·
     repeat (first | exact EnvLe.nil _ | refine EnvLe.cons rfl ?_)
    ·
     exact entX
   ·
    refine SG.block ?_
    refine SG.seq ?_
    refine SG.seq ?_
    refine SG.region ?_
    refine RL.cmp (Wanted.free rfl) (V.bin rfl rfl rfl B.eql) rfl (fun h55 => ?_) (fun h55 => ?_)
    ·
     refine RL.val (Wanted.free rfl) (V.assign rfl rfl) rfl ?_
     refine RL.nil ?_
     refine SG.cond_true rfl ?_
     refine SG.skip ?_
     refine SG.cond_true rfl ?_
     refine SG.seq ?_
     refine SG.region ?_
     refine RL.val (Wanted.free rfl) (V.move rfl rfl) rfl ?_
     refine RL.val (Wanted.free rfl) (V.move rfl rfl) rfl ?_
     refine RL.val (Wanted.free rfl) (V.indexSl (j := i) rfl el38.slice rfl rfl memX (by first | rfl | omega) (by omega)) rfl ?_
     refine RL.val (Wanted.free rfl) (V.loadAt rfl ag42 rfl memX rfl) rfl ?_
     refine RL.val (Wanted.free rfl) (V.move rfl rfl) rfl ?_
     refine RL.val (Wanted.free rfl) (V.bin rfl rfl rfl (B.mulI (by omega) (by omega))) rfl ?_
     refine RL.eff (Wanted.free rfl) (E.call rfl go19 rfl (record_ok (o := o) (most := 64 * ((4 + q : Nat) : Int)) hok memX (by omega) (by omega))) rfl ?_
     rintro _ _ ⟨a85, c85, rec, hrl, rfl, rfl⟩
     refine RL.publish (T := R8) (a := a85) Pick.here ?_
     refine RL.val (Wanted.free rfl) (V.assign rfl rfl) rfl ?_
     refine RL.nil ?_
     refine SG.seq ?_
     have hgf := hP.good.fit
     rw [hP.en] at hgf
     refine SG.region ?_
     refine RL.val (Wanted.free rfl) (V.move rfl rfl) rfl ?_
     refine RL.val (Wanted.free rfl) (V.move rfl rfl) rfl ?_
     refine RL.val (Wanted.free rfl) (V.move rfl rfl) rfl ?_
     refine RL.eff (Wanted.free rfl) (E.call rfl go20 rfl (rapp_rd (l := g.recs) (n := ((4 + q : Nat) : Int)) (rec := rec) (by omega) (by omega) (by omega) (by first | (apply Seen.sl; (· repeat (first | exact List.Mem.head _ | assumption | apply List.Mem.tail))) | (apply Seen.buf; (· repeat (first | exact Pick.here | apply Pick.there)))) (by first | (apply Seen.sl; (· repeat (first | exact List.Mem.head _ | assumption | apply List.Mem.tail))) | (apply Seen.buf; (· repeat (first | exact Pick.here | apply Pick.there)))))) rfl ?_
     rintro _ _ ⟨rfl, rfl⟩
     refine RL.val (Wanted.free rfl) (V.assign rfl rfl) rfl ?_
     refine RL.nil ?_
     refine SG.seq ?_
     refine SG.region ?_
     refine RL.val (Wanted.free rfl) (V.move rfl rfl) rfl ?_
     refine RL.val (Wanted.free rfl) (V.move rfl rfl) rfl ?_
     refine RL.eff (Wanted.free rfl) (E.call rfl go16 rfl (lAppend_ok hP.good.ok (b := lb) pickX hP.ok pickX (rec := rec) memX)) rfl ?_
     rintro _ _ ⟨rfl, rfl⟩
     have hae : appE g D rec = (appR ((4 + q : Nat) : Int) g.recs rec) := by rw [app_eq hP.good hC.off, hP.en]
     rw [hae]
     refine RL.val (Wanted.free rfl) (V.assign rfl rfl) rfl ?_
     refine RL.nil ?_
     refine SG.seq ?_
     refine SG.region ?_
     refine RL.val (Wanted.free rfl) (V.move rfl rfl) rfl ?_
     refine RL.cmp (Wanted.free rfl) (V.bin rfl rfl rfl B.eql) rfl (fun h75 => ?_) (fun h75 => ?_)
     ·
      obtain ⟨ha1, hrc, ha3⟩ := hP.app (rec := rec) hC.off (by rw [hae]; exact h75)
      refine RL.nil ?_
      refine SG.cond_true rfl ?_
      refine SG.buf (T := Rep.slice R8) (a := wa) pickX fun hwl _ _ => ?_
      have hrl2 := recs_le g.recs
      refine SG.region ?_
      refine RL.val (Wanted.free rfl) (V.move rfl rfl) rfl ?_
      refine RL.val (Wanted.free rfl) (V.move rfl rfl) rfl ?_
      refine RL.eff (Wanted.free rfl) (E.lit1 [.slice a85 rec.length c85] rfl el39.slice ze35 rfl (by decide) (by decide) rfl rfl rfl) rfl ?_
      rintro _ _ ⟨b97, rfl, rfl⟩
      refine RL.eff (Wanted.free rfl) (E.append (T := (Rep.slice R8)) rfl rfl rfl el39 el39.noInt rfl rfl pickX (Src.litSl (y := rec) pickX memX) (by first | omega | (simp; omega)) (by first | omega | (simp; omega))) rfl ?_
      intro _ _ hK79
      try rw [List.nil_append] at hK79
      try rw [Nat.zero_add] at hK79
      obtain ⟨a98, c98, rfl, rfl⟩ := hK79
      refine RL.val (Wanted.free rfl) (V.assign rfl rfl) rfl ?_
      refine RL.nil ?_
      refine SG.inBlock ?_
      refine SG.weaken (rest ⟨lb, appL g D rec, D, ⟨a98, wn + 1, c98⟩, s2, (appR ((4 + q : Nat) : Int) g.recs rec)⟩ ⟨ha1.mono (by omega) (by omega), hC, by rw [ha3]; exact hs2⟩) ?_ ?_
      ·
       repeat (first | exact EnvLe.nil _ | refine EnvLe.cons rfl ?_)
      ·
       try dsimp only
       try rw [hrc]
       exact entX
     ·
      have hal := appL_err (g := g) (D := D) (rec := rec) hae h75
      have hrc : (appL g D rec).recs = g.recs := by rw [hal]
      refine RL.nil ?_
      refine SG.cond_false rfl ?_
      refine SG.skip ?_
      refine SG.inBlock ?_
      refine SG.weaken (rest ⟨lb, appL g D rec, D, ⟨wa, wn, wc⟩, s2, (appR ((4 + q : Nat) : Int) g.recs rec)⟩ ⟨by rw [hal]; exact hP.mono (by omega) (by omega), hC, by rw [hal]; exact hs2⟩) ?_ ?_
      ·
       repeat (first | exact EnvLe.nil _ | refine EnvLe.cons rfl ?_)
      ·
       try dsimp only
       try rw [hrc]
       exact entX
    ·
     refine RL.val (Wanted.free rfl) (V.assign rfl rfl) rfl ?_
     refine RL.nil ?_
     refine SG.cond_false rfl ?_
     refine SG.region ?_
     refine RL.cmp (Wanted.free rfl) (V.bin rfl rfl rfl B.eql) rfl (fun h82 => ?_) (fun h82 => ?_)
     ·
      refine RL.val (Wanted.free rfl) (V.assign rfl rfl) rfl ?_
      refine RL.nil ?_
      refine SG.cond_true rfl ?_
      refine SG.seq ?_
      refine SG.region ?_
      refine RL.val (Wanted.free rfl) (V.move rfl rfl) rfl ?_
      refine RL.val (Wanted.free rfl) (V.move rfl rfl) rfl ?_
      refine RL.val (Wanted.free rfl) (V.indexSl (j := i) rfl el38.slice rfl rfl memX (by first | rfl | omega) (by omega)) rfl ?_
      refine RL.val (Wanted.free rfl) (V.loadAt rfl ag42 rfl memX rfl) rfl ?_
      refine RL.val (Wanted.free rfl) (V.move rfl rfl) rfl ?_
      refine RL.val (Wanted.free rfl) (V.bin rfl rfl rfl (B.mulI (by omega) (by omega))) rfl ?_
      refine RL.eff (Wanted.free rfl) (E.call rfl go19 rfl (record_ok (o := o) (most := 64 * ((4 + q : Nat) : Int)) hok memX (by omega) (by omega))) rfl ?_
      rintro _ _ ⟨a85, c85, rec, hrl, rfl, rfl⟩
      refine RL.publish (T := R8) (a := a85) Pick.here ?_
      refine RL.val (Wanted.free rfl) (V.assign rfl rfl) rfl ?_
      refine RL.nil ?_
      refine SG.seq ?_
      have hgf := hP.good.fit
      rw [hP.en] at hgf
      refine SG.region ?_
      refine RL.val (Wanted.free rfl) (V.move rfl rfl) rfl ?_
      refine RL.val (Wanted.free rfl) (V.move rfl rfl) rfl ?_
      refine RL.val (Wanted.free rfl) (V.move rfl rfl) rfl ?_
      refine RL.eff (Wanted.free rfl) (E.call rfl go20 rfl (rapp_rd (l := g.recs) (n := ((4 + q : Nat) : Int)) (rec := rec) (by omega) (by omega) (by omega) (by first | (apply Seen.sl; (· repeat (first | exact List.Mem.head _ | assumption | apply List.Mem.tail))) | (apply Seen.buf; (· repeat (first | exact Pick.here | apply Pick.there)))) (by first | (apply Seen.sl; (· repeat (first | exact List.Mem.head _ | assumption | apply List.Mem.tail))) | (apply Seen.buf; (· repeat (first | exact Pick.here | apply Pick.there)))))) rfl ?_
      rintro _ _ ⟨rfl, rfl⟩
      refine RL.val (Wanted.free rfl) (V.assign rfl rfl) rfl ?_
      refine RL.nil ?_
      refine SG.seq ?_
      refine SG.region ?_
      refine RL.val (Wanted.free rfl) (V.move rfl rfl) rfl ?_
      refine RL.val (Wanted.free rfl) (V.move rfl rfl) rfl ?_
      refine RL.eff (Wanted.free rfl) (E.call rfl go16 rfl (lAppend_ok hP.good.ok (b := lb) pickX hP.ok pickX (rec := rec) memX)) rfl ?_
      rintro _ _ ⟨rfl, rfl⟩
      have hae : appE g D rec = (appR ((4 + q : Nat) : Int) g.recs rec) := by rw [app_eq hP.good hC.off, hP.en]
      rw [hae]
      refine RL.val (Wanted.free rfl) (V.assign rfl rfl) rfl ?_
      refine RL.nil ?_
      refine SG.seq ?_
      refine SG.region ?_
      refine RL.val (Wanted.free rfl) (V.move rfl rfl) rfl ?_
      refine RL.cmp (Wanted.free rfl) (V.bin rfl rfl rfl B.eql) rfl (fun h102 => ?_) (fun h102 => ?_)
      ·
       obtain ⟨ha1, hrc, ha3⟩ := hP.app (rec := rec) hC.off (by rw [hae]; exact h102)
       refine RL.nil ?_
       refine SG.cond_true rfl ?_
       refine SG.buf (T := Rep.slice R8) (a := wa) pickX fun hwl _ _ => ?_
       have hrl2 := recs_le g.recs
       refine SG.region ?_
       refine RL.val (Wanted.free rfl) (V.move rfl rfl) rfl ?_
       refine RL.val (Wanted.free rfl) (V.move rfl rfl) rfl ?_
       refine RL.eff (Wanted.free rfl) (E.lit1 [.slice a85 rec.length c85] rfl el39.slice ze35 rfl (by decide) (by decide) rfl rfl rfl) rfl ?_
       rintro _ _ ⟨b97, rfl, rfl⟩
       refine RL.eff (Wanted.free rfl) (E.append (T := (Rep.slice R8)) rfl rfl rfl el39 el39.noInt rfl rfl pickX (Src.litSl (y := rec) pickX memX) (by first | omega | (simp; omega)) (by first | omega | (simp; omega))) rfl ?_
       intro _ _ hK106
       try rw [List.nil_append] at hK106
       try rw [Nat.zero_add] at hK106
       obtain ⟨a98, c98, rfl, rfl⟩ := hK106
       refine RL.val (Wanted.free rfl) (V.assign rfl rfl) rfl ?_
       refine RL.nil ?_
       refine SG.inBlock ?_
       refine SG.weaken (rest ⟨lb, appL g D rec, D, ⟨a98, wn + 1, c98⟩, s2, (appR ((4 + q : Nat) : Int) g.recs rec)⟩ ⟨ha1.mono (by omega) (by omega), hC, by rw [ha3]; exact hs2⟩) ?_ ?_
       ·
        repeat (first | exact EnvLe.nil _ | refine EnvLe.cons rfl ?_)
       ·
        try dsimp only
        try rw [hrc]
        exact entX
      ·
       have hal := appL_err (g := g) (D := D) (rec := rec) hae h102
       have hrc : (appL g D rec).recs = g.recs := by rw [hal]
       refine RL.nil ?_
       refine SG.cond_false rfl ?_
       refine SG.skip ?_
       refine SG.inBlock ?_
       refine SG.weaken (rest ⟨lb, appL g D rec, D, ⟨wa, wn, wc⟩, s2, (appR ((4 + q : Nat) : Int) g.recs rec)⟩ ⟨by rw [hal]; exact hP.mono (by omega) (by omega), hC, by rw [hal]; exact hs2⟩) ?_ ?_
       ·
        repeat (first | exact EnvLe.nil _ | refine EnvLe.cons rfl ?_)
       ·
        try dsimp only
        try rw [hrc]
        exact entX
     ·
      refine RL.val (Wanted.free rfl) (V.assign rfl rfl) rfl ?_
      refine RL.nil ?_
      refine SG.cond_false rfl ?_
      refine SG.seq ?_
      refine SG.region ?_
      refine RL.cmp (Wanted.free rfl) (V.bin rfl rfl rfl B.eql) rfl (fun h109 => ?_) (fun h109 => ?_)
      ·
       refine RL.val (Wanted.free rfl) (V.assign rfl rfl) rfl ?_
       refine RL.nil ?_
       refine SG.cond_true rfl ?_
       refine SG.seq ?_
       obtain ⟨hy1, _, _, hyc, hrc, hyr⟩ := hP.sync hC.off (by omega)
       obtain ⟨hy4, hy5⟩ := hyc hC
       have hy6 : (syncR g D).1.synced = g.recs.length := by
          rcases hyr with h | h
          ·
           exact h.2
          ·
           rw [h.1] at hy5; cases hy5
       refine SG.region ?_
       refine RL.val (Wanted.free rfl) (V.move rfl rfl) rfl ?_
       refine RL.eff (Wanted.free rfl) (E.call rfl go21 rfl (lSync_ok hP.good.ok (b := lb) pickX hP.ok hP.m1 (by omega) pickX)) rfl ?_
       rintro _ _ ⟨rfl, rfl⟩
       rw [hy5]
       refine RL.val (Wanted.free rfl) (V.assign rfl rfl) rfl ?_
       refine RL.nil ?_
       refine SG.buf (T := Rep.slice R8) (a := wa) pickX fun hwl _ _ => ?_
       refine SG.region ?_
       refine RL.val (Wanted.free rfl) (V.move rfl rfl) rfl ?_
       refine RL.val (Wanted.free rfl) (V.len rfl rfl el39.under rfl) rfl ?_
       refine RL.val (Wanted.free rfl) (V.assign rfl rfl) rfl ?_
       refine RL.nil ?_
       refine SG.inBlock ?_
       refine SG.weaken (rest ⟨lb, (syncR g D).1, (syncR g D).2.1, ⟨wa, wn, wc⟩, wn, 0⟩ ⟨hy1.mono (by omega) (by omega), hy4, by omega⟩) ?_ ?_
       ·
        repeat (first | exact EnvLe.nil _ | refine EnvLe.cons rfl ?_)
       ·
        try dsimp only
        try rw [hrc]
        exact entX
      ·
       refine RL.val (Wanted.free rfl) (V.assign rfl rfl) rfl ?_
       refine RL.nil ?_
       refine SG.cond_false rfl ?_
       refine SG.seq ?_
       refine SG.region ?_
       refine RL.cmp (Wanted.free rfl) (V.bin rfl rfl rfl B.eql) rfl (fun h118 => ?_) (fun h118 => ?_)
       ·
        refine RL.val (Wanted.free rfl) (V.assign rfl rfl) rfl ?_
        refine RL.nil ?_
        refine SG.cond_true rfl ?_
        refine SG.seq ?_
        obtain ⟨rr, hz1, _, _, hzc, hzr⟩ := hP.reset hC.off (by omega)
        obtain ⟨hz4, hz5⟩ := hzc hC
        obtain ⟨hz6, hrc, hz7⟩ : rr = false ∧ (resetL g D).recs = [] ∧ (resetL g D).synced = 0 := by
           rcases hzr with h | h
           ·
            exact h.2
           ·
            rw [h.1] at hz5; cases hz5
        subst hz6
        refine SG.region ?_
        refine RL.val (Wanted.free rfl) (V.move rfl rfl) rfl ?_
        refine RL.eff (Wanted.free rfl) (E.call rfl go22 rfl (lReset_ok hP.good.ok (b := lb) pickX hP.ok (by omega) pickX)) rfl ?_
        rintro _ _ ⟨rfl, rfl⟩
        rw [hz5]
        refine RL.val (Wanted.free rfl) (V.assign rfl rfl) rfl ?_
        refine RL.nil ?_
        refine SG.seq ?_
        refine SG.ent (Buf.nil (T := Rep.slice R8) (e := 35)) ?_
        refine SG.region ?_
        refine RL.val (Wanted.free rfl) (V.assign rfl rfl) rfl ?_
        refine RL.nil ?_
        refine SG.region ?_
        refine RL.val (Wanted.free rfl) (V.assign rfl rfl) rfl ?_
        refine RL.nil ?_
        refine SG.inBlock ?_
        refine SG.weaken (rest ⟨lb, resetL g D, putD D g.f (g.turn + 1) 0, ⟨none, 0, 0⟩, 0, 0⟩ ⟨hz1.mono (by omega) (by omega), hz4, by omega⟩) ?_ ?_
        ·
         repeat (first | exact EnvLe.nil _ | refine EnvLe.cons rfl ?_)
        ·
         try dsimp only
         try rw [hrc]
         exact entX
       ·
        refine RL.val (Wanted.free rfl) (V.assign rfl rfl) rfl ?_
        refine RL.nil ?_
        refine SG.cond_false rfl ?_
        refine SG.seq ?_
        obtain ⟨hy1, _, _, hyc, hrc, hyr⟩ := hP.sync hC.off (by omega)
        obtain ⟨hy4, hy5⟩ := hyc hC
        have hy6 : (syncR g D).1.synced = g.recs.length := by
           rcases hyr with h | h
           ·
            exact h.2
           ·
            rw [h.1] at hy5; cases hy5
        refine SG.region ?_
        refine RL.val (Wanted.free rfl) (V.move rfl rfl) rfl ?_
        refine RL.eff (Wanted.free rfl) (E.call rfl go21 rfl (lSync_ok hP.good.ok (b := lb) pickX hP.ok hP.m1 (by omega) pickX)) rfl ?_
        rintro _ _ ⟨rfl, rfl⟩
        rw [hy5]
        refine RL.val (Wanted.free rfl) (V.assign rfl rfl) rfl ?_
        refine RL.nil ?_
        refine SG.seq ?_
        obtain ⟨hr1, hr2⟩ := hy1.reopen hy4.off (by rw [hrc]; exact hy6) (by omega)
        rw [hrc] at hr1 hr2
        refine SG.region ?_
        refine RL.val (Wanted.free rfl) (V.move rfl rfl) rfl ?_
        refine RL.val (Wanted.free rfl) (V.move rfl rfl) rfl ?_
        refine RL.eff (Wanted.free rfl) (E.call rfl go14 rfl (open_ok hy1.ok (by omega) (db := b22) pickX (by unfold inInt; omega) (by unfold inInt; omega) (hy1.chk hy4.off) hr1)) rfl ?_
        rintro _ _ ⟨b64, rfl, rfl⟩
        refine RL.val (Wanted.free rfl) (V.move rfl rfl) rfl ?_
        refine RL.val (Wanted.free rfl) (V.extract rfl rfl rfl) rfl ?_
        refine RL.val (Wanted.free rfl) (V.extract rfl rfl rfl) rfl ?_
        refine RL.val (Wanted.free rfl) (V.assign rfl rfl) rfl ?_
        refine RL.val (Wanted.free rfl) (V.assign rfl rfl) rfl ?_
        refine RL.nil ?_
        refine SG.seq ?_
        refine SG.seq ?_
        refine SG.region ?_
        refine RL.val (Wanted.free rfl) (V.move rfl rfl) rfl ?_
        refine RL.cmpF (Wanted.free rfl) (V.bin rfl rfl rfl B.neq) rfl (by simp) ?_
        refine RL.val (Wanted.free rfl) (V.move rfl rfl) rfl ?_
        refine RL.val (Wanted.yes rfl rfl rfl rfl) (V.move rfl rfl) rfl ?_
        refine RL.cmpF (Wanted.yes rfl rfl rfl rfl) (V.eqlPtrNil rfl up31 rfl rfl) rfl (by simp) ?_
        refine RL.val (Wanted.free rfl) (V.pick_false rfl rfl rfl) rfl ?_
        refine RL.nil ?_
        refine SG.cond_false rfl ?_
        refine SG.skip ?_
        refine SG.seq ?_
        refine SG.region ?_
        refine RL.val (Wanted.free rfl) (V.move rfl rfl) rfl ?_
        refine RL.val (Wanted.free rfl) (V.assign rfl rfl) rfl ?_
        refine RL.nil ?_
        refine SG.buf (T := Rep.slice R8) (a := wa) pickX fun hwl _ _ => ?_
        refine SG.region ?_
        refine RL.val (Wanted.free rfl) (V.move rfl rfl) rfl ?_
        refine RL.val (Wanted.free rfl) (V.len rfl rfl el39.under rfl) rfl ?_
        refine RL.val (Wanted.free rfl) (V.assign rfl rfl) rfl ?_
        refine RL.nil ?_
        refine SG.inBlock ?_
        refine SG.weaken (rest ⟨b64, lgO (syncR g D).2.1 2 ((4 + q : Nat) : Int) g.recs, (syncR g D).2.1, ⟨wa, wn, wc⟩, wn, 0⟩ ⟨hr2.mono (by omega) (by omega), hy4, by show (wn : Int) ≤ g.recs.length; omega⟩) ?_ ?_
        ·
         repeat (first | exact EnvLe.nil _ | refine EnvLe.cons rfl ?_)
        ·
         try dsimp only
         try rw [hrc]
         exact entX
  ·
   refine RL.val (Wanted.free rfl) (V.pick_true rfl rfl rfl) rfl ?_
   refine RL.nil ?_
   refine SG.cond_false rfl ?_
   refine SG.exit rfl ?_
   refine SG.seq ?_
   refine SG.region ?_
   refine RL.eff (Wanted.free rfl) (E.call rfl go17 rfl (lives_ok)) rfl ?_
   rintro _ _ ⟨rfl, rfl⟩
   refine RL.val (Wanted.free rfl) (V.assign rfl rfl) rfl ?_
   refine RL.nil ?_
   refine SG.retE (Ret.r1 Try.func4 rfl (.tmp rfl)) ?_ ⟨rfl, rfl⟩
   exact entX
 ·
  refine RL.val (Wanted.free rfl) (V.move rfl rfl) rfl ?_
  refine RL.skip (Wanted.no rfl rfl rfl rfl rfl) rfl ?_
  refine RL.skip (Wanted.no rfl rfl rfl rfl rfl) rfl ?_
  refine RL.val (Wanted.free rfl) (V.pick_false rfl rfl rfl) rfl ?_
  refine RL.nil ?_
  refine SG.cond_false rfl ?_
  refine SG.exit rfl ?_
  refine SG.seq ?_
  refine SG.region ?_
  refine RL.eff (Wanted.free rfl) (E.call rfl go17 rfl (lives_ok)) rfl ?_
  rintro _ _ ⟨rfl, rfl⟩
  refine RL.val (Wanted.free rfl) (V.assign rfl rfl) rfl ?_
  refine RL.nil ?_
  refine SG.retE (Ret.r1 Try.func4 rfl (.tmp rfl)) ?_ ⟨rfl, rfl⟩
  exact entX

end Go.Proofs.Ytnbjonijlkjclaa
