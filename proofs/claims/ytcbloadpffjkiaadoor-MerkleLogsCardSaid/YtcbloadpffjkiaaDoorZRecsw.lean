/- Records. -/
import Derived.Test.YtcbloadpffjkiaaDoorZLogs1
namespace Go.Proofs.YtcbloadpffjkiaaDoor
open Go.Wk Go.Wl Go.Dsk

set_option maxRecDepth 100000 in
set_option maxHeartbeats 1000000 in
theorem lRecs_ok {κ : World} {L : List Assn} {L1 : List Assn} {b db : Nat} {g : Lg} (hg : LgOk g) (hp : Pick (Lgm b db g) L L1) (hrl : ∀ r ∈ g.recs, r.length ≤ 1000000) :
    Ctr Tryd.prog 43 #[ptr b 0] κ L (fun v M => ∃ a' c', v = .slice a' g.recs.length c' ∧ M = Buf (Rep.slice R8) 62 a' g.recs.length c' g.recs :: Lgm b db g :: L1) := by
 refine Ctr.enter (vs := [ptr b 0]) (m := 22) Tryd.func43 rfl rfl rfl ?_
 refine SG.openLg hp fun da dn dc ra rn rc => ?_
 have hgf0 := hg.f0
 have hgf1 := hg.f1
 have hgn0 := hg.n0
 have hgn1 := hg.n1
 have hgd := hg.d
 have hgr := hg.r
 have hgu0 := hg.u0
 have hgu1 := hg.u1
 have hgs0 := hg.s0
 have hgs1 := hg.s1
 refine SG.buf (T := Rep.slice R8) (a := ra) pickX fun hrn hrc _ => ?_
 refine SG.seq ?_
 refine SG.region ?_
 refine RL.val (Wanted.free rfl) (V.assign rfl rfl) rfl ?_
 refine RL.nil ?_
 refine SG.seq ?_
 refine SG.region ?_
 refine RL.val (Wanted.free rfl) (V.assign rfl rfl) rfl ?_
 refine RL.nil ?_
 refine SG.seq ?_
 refine SG.seq ?_
 refine SG.region ?_
 refine RL.val (Wanted.free rfl) (V.move rfl rfl) rfl ?_
 refine RL.val (Wanted.free rfl) (V.nilCheck rfl rfl) rfl ?_
 refine RL.val (Wanted.free rfl) (V.fieldAddr rfl rfl fo103_5) rfl ?_
 refine RL.val (Wanted.free rfl) (V.load rfl on36 rfl pickX rfl) rfl ?_
 refine RL.val (Wanted.free rfl) (V.len rfl rfl el36.under rfl) rfl ?_
 refine RL.val (Wanted.free rfl) (V.move rfl rfl) rfl ?_
 refine RL.nil ?_
 refine SG.block ?_
 refine SG.ent (Buf.nil (T := Rep.slice R8) (e := 62)) ?_
 refine SG.weaken (SG.loop2 (fun m0 al M => ∃ (i : Nat) (a3 : Option Addr) (c3 : Nat), i ≤ rn ∧ m0 = rn - i ∧ al = [(3, .slice a3 i c3), (9, .slice ra rn rc), (10, vI rn), (11, vI i)] ∧ M = Buf (Rep.slice R8) 62 a3 i c3 (g.recs.take i) :: Blk b 103 (lgc db g (.slice da dn dc) (.slice ra rn rc)) :: Buf R8 5 da dn dc g.data :: Buf (Rep.slice R8) 62 ra rn rc g.recs :: L1) (m0 := _) ⟨0, none, 0, by omega, rfl, rfl, rfl⟩ ?_) ?_ ?_
 rotate_left
 ·
  repeat (first | exact EnvLe.nil _ | refine EnvLe.cons rfl ?_)
 ·
  rw [List.take_zero]
  exact entX
 rintro _ _ _ ⟨i, a3, c3, hi, rfl, rfl, rfl⟩ ih0
 refine SG.seq ?_
 refine SG.region ?_
 refine RL.cmp (Wanted.free rfl) (V.bin rfl rfl rfl B.lss) rfl (fun h9 => ?_) (fun h9 => ?_)
 ·
  refine RL.nil ?_
  refine SG.seq ?_
  refine SG.cond_true rfl ?_
  refine SG.skip ?_
  refine SG.seq ?_
  refine SG.block ?_
  refine SG.seq ?_
  have hil : i < g.recs.length := by omega
  have hri := hrl _ (List.getElem_mem hil)
  refine SG.region ?_
  refine RL.val (Wanted.free rfl) (V.indexBuf rfl el36.slice rfl rfl pickX (by first | rfl | omega) (by omega)) rfl ?_
  refine RL.eff (Wanted.free rfl) (E.loadBufSl rfl on62 rfl pickX (List.getElem?_eq_getElem (by omega))) rfl ?_
  rintro _ _ ⟨a14, m14, c14, rfl, rfl⟩
  refine RL.val (Wanted.free rfl) (V.assign rfl rfl) rfl ?_
  refine RL.nil ?_
  refine SG.sl (T := R8) (a := a14) (l := g.recs[i]) memX fun hyl _ _ => ?_
  refine SG.slN (T := R8) (a := a14) (l := g.recs[i]) memX fun hyn => ?_
  refine SG.region ?_
  refine RL.val (Wanted.free rfl) (V.move rfl rfl) rfl ?_
  refine RL.val (Wanted.free rfl) (V.move rfl rfl) rfl ?_
  refine RL.eff (Wanted.free rfl) (E.call rfl go70 rfl (clone8_ok (l := g.recs[i]) (Src.sl (by decide) memX) hyl hyn (by omega))) rfl ?_
  rintro _ _ ⟨a17, c17, rfl, rfl⟩
  refine RL.publish (T := R8) (a := a17) Pick.here ?_
  refine RL.eff (Wanted.free rfl) (E.lit1 _ rfl el36.slice ze62 rfl (by decide) (by decide) rfl rfl rfl) rfl ?_
  rintro _ _ ⟨b18, rfl, rfl⟩
  refine RL.eff (Wanted.free rfl) (E.append (T := (Rep.slice R8)) rfl rfl rfl el36 el36.noInt rfl rfl pickX (Src.litSl (y := g.recs[i]) pickX memX) (by first | omega | (simp; omega)) (by first | omega | (simp; omega))) rfl ?_
  intro _ _ hK17
  try rw [List.nil_append] at hK17
  try rw [Nat.zero_add] at hK17
  rw [show g.recs.take i ++ [g.recs[i]] = g.recs.take (i + 1) from by rw [List.take_add_one, List.getElem?_eq_getElem hil]; rfl] at hK17
  obtain ⟨a19, c19, rfl, rfl⟩ := hK17
  refine RL.val (Wanted.free rfl) (V.assign rfl rfl) rfl ?_
  refine RL.nil ?_
  refine SG.inBlock ?_
  refine SG.region ?_
  refine RL.val (Wanted.free rfl) (V.bin rfl rfl rfl (B.addI (by omega) (by omega))) rfl ?_
  refine RL.val (Wanted.free rfl) (V.move rfl rfl) rfl ?_
  refine RL.nil ?_
  refine SG.weaken (ih0 _ _ _ ?_ ⟨i + 1, a19, c19, by omega, rfl, rfl, rfl⟩) ?_ ?_
  ·
   omega
  ·
   repeat (first | exact EnvLe.nil _ | refine EnvLe.cons rfl ?_)
  ·
   exact entX
 ·
  refine RL.nil ?_
  refine SG.seq ?_
  refine SG.cond_false rfl ?_
  refine SG.exit rfl ?_
  refine SG.seq ?_
  refine SG.region ?_
  refine RL.val (Wanted.free rfl) (V.move rfl rfl) rfl ?_
  refine RL.val (Wanted.free rfl) (V.assign rfl rfl) rfl ?_
  refine RL.nil ?_
  obtain rfl : i = rn := by omega
  rw [← hrn, List.take_length]
  refine SG.retE (Ret.r1 Tryd.func43 rfl (.tmp rfl)) ?_ ⟨_, _, rfl, rfl⟩
  refine Ent.frame _ ?_
  refine Lgm.ent (da := da) (dn := dn) (dc := dc) (ra := ra) (rn := g.recs.length) (rc := rc) ?_
  exact entX

end Go.Proofs.YtcbloadpffjkiaaDoor
