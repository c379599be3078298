/- Append. -/
import Derived.Test.YtcbloadpffjkiaaDoorZLogs1
namespace Go.Proofs.YtcbloadpffjkiaaDoor
open Go.Wk Go.Wl Go.Dsk

set_option maxRecDepth 100000 in
set_option maxHeartbeats 1000000 in
theorem lAppend_ok {κ : World} {L : List Assn} {L1 : List Assn} {b db : Nat} {g : Lg} (hg : LgOk g) (hp : Pick (Lgm b db g) L L1) {L2 : List Assn} {D : Dk} {m0 : Nat} (hD : D.ok m0) (hd : Pick (Dsk db D) L1 L2) {a : Option Addr} {m c : Nat} {rec : List UInt8} (hm : Sl R8 a m c rec ∈ L2) :
    Ctr Tryd.prog 37 #[ptr b 0, .slice a m c] κ L (fun v M => v = vI (appE g D rec) ∧ M = Lgm b db (appL g D rec) :: Dsk db D :: L2) := by
 refine Ctr.enter (vs := [ptr b 0, .slice a m c]) (m := 56) Tryd.func37 rfl rfl rfl ?_
 refine SG.ent (Ent.trans (b := Lgm b db g :: Dsk db D :: L2) (Ent.trans hp (Ent.frame _ hd)) (Ent.refl _)) ?_
 refine SG.sl (T := R8) (a := a) (l := rec) memX fun hml hmc _ => ?_
 subst hml
 refine SG.slN (T := R8) (a := a) (l := rec) memX fun hnn => ?_
 have hgf0 := hg.f0
 have hgf1 := hg.f1
 have hgn0 := hg.n0
 have hgn1 := hg.n1
 have hgd := hg.d
 have hgr := hg.r
 have hgu0 := hg.u0
 have hgu1 := hg.u1
 have hgs0 := hg.s0
 have hgs1 := hg.s1
 refine SG.seq ?_
 refine SG.region ?_
 refine RL.val (Wanted.free rfl) (V.assign rfl rfl) rfl ?_
 refine RL.nil ?_
 refine SG.seq ?_
 refine SG.block ?_
 refine SG.seq ?_
 refine SG.region ?_
 refine RL.val (Wanted.free rfl) (V.move rfl rfl) rfl ?_
 refine RL.val (Wanted.free rfl) (V.len rfl rfl el62.under rfl) rfl ?_
 refine RL.cmp (Wanted.free rfl) (V.bin rfl rfl rfl B.gtr) rfl (fun h4 => ?_) (fun h4 => ?_)
 ·
  have hae : appE g D rec = 2 := if_pos (by omega)
  refine RL.val (Wanted.free rfl) (V.assign rfl rfl) rfl ?_
  refine RL.nil ?_
  refine SG.cond_true rfl ?_
  refine SG.seq ?_
  refine SG.region ?_
  refine RL.val (Wanted.free rfl) (V.assign rfl rfl) rfl ?_
  refine RL.nil ?_
  refine SG.retE (Ret.r1 Tryd.func37 rfl (.tmp rfl)) ?_ ⟨by rw [hae], rfl⟩
  rw [appL_err hae (by decide)]
  exact entX
 ·
  refine RL.val (Wanted.free rfl) (V.assign rfl rfl) rfl ?_
  refine RL.nil ?_
  refine SG.cond_false rfl ?_
  refine SG.seq ?_
  refine SG.region ?_
  refine RL.val (Wanted.free rfl) (V.move rfl rfl) rfl ?_
  refine RL.val (Wanted.free rfl) (V.len rfl rfl el62.under rfl) rfl ?_
  refine RL.val (Wanted.free rfl) (V.move rfl rfl) rfl ?_
  refine RL.eff (Wanted.free rfl) (E.call rfl go68 rfl (lRoom_ok hg pickX)) rfl ?_
  rintro _ _ ⟨rfl, rfl⟩
  refine RL.cmp (Wanted.free rfl) (V.bin rfl rfl rfl B.gtr) rfl (fun h12 => ?_) (fun h12 => ?_)
  ·
   have hae : appE g D rec = 9 := by unfold appE; rw [if_neg (by omega), if_pos (by omega)]
   refine RL.val (Wanted.free rfl) (V.assign rfl rfl) rfl ?_
   refine RL.nil ?_
   refine SG.cond_true rfl ?_
   refine SG.seq ?_
   refine SG.region ?_
   refine RL.val (Wanted.free rfl) (V.assign rfl rfl) rfl ?_
   refine RL.nil ?_
   refine SG.retE (Ret.r1 Tryd.func37 rfl (.tmp rfl)) ?_ ⟨by rw [hae], rfl⟩
   rw [appL_err hae (by decide)]
   exact entX
  ·
   refine RL.val (Wanted.free rfl) (V.assign rfl rfl) rfl ?_
   refine RL.nil ?_
   refine SG.cond_false rfl ?_
   refine SG.seq ?_
   refine SG.openLg pickX fun da dn dc ra rn rc => ?_
   refine SG.buf (T := R8) (a := da) pickX fun hdn hdc _ => ?_
   refine SG.buf (T := Rep.slice R8) (a := ra) pickX fun hrn hrc _ => ?_
   refine SG.region ?_
   refine RL.val (Wanted.free rfl) (V.move rfl rfl) rfl ?_
   refine RL.val (Wanted.free rfl) (V.nilCheck rfl rfl) rfl ?_
   refine RL.val (Wanted.free rfl) (V.fieldAddr rfl rfl fo103_0) rfl ?_
   refine RL.val (Wanted.free rfl) (V.load rfl on55 rfl pickX rfl) rfl ?_
   refine RL.eff (Wanted.free rfl) (E.call rfl go35 rfl (dOn_ok hD (b := db) pickX)) rfl ?_
   rintro _ _ ⟨rfl, rfl⟩
   refine RL.val (Wanted.free rfl) (V.not rfl rfl) rfl ?_
   refine RL.val (Wanted.free rfl) (V.assign rfl rfl) rfl ?_
   refine RL.nil ?_
   refine SG.cond rfl (fun h22 => ?_) (fun h22 => ?_)
   ·
    have hoff : D.off = true := by simpa using h22
    have hae : appE g D rec = 10 := by unfold appE; rw [if_neg (by omega), if_neg (by omega), if_pos hoff]
    refine SG.seq ?_
    refine SG.region ?_
    refine RL.val (Wanted.free rfl) (V.assign rfl rfl) rfl ?_
    refine RL.nil ?_
    refine SG.retE (Ret.r1 Tryd.func37 rfl (.tmp rfl)) ?_ ⟨by rw [hae], rfl⟩
    rw [appL_err hae (by decide)]
    refine Lgm.ent (da := da) (dn := dn) (dc := dc) (ra := ra) (rn := rn) (rc := rc) ?_
    exact entX
   ·
    have hoff : D.off = false := by simpa using h22
    have hae : appE g D rec = 0 := by unfold appE; rw [if_neg (by omega), if_neg (by omega), if_neg (by rw [hoff]; decide)]
    refine SG.skip ?_
    refine SG.inBlock ?_
    refine SG.seq ?_
    refine SG.region ?_
    refine RL.val (Wanted.free rfl) (V.move rfl rfl) rfl ?_
    refine RL.val (Wanted.free rfl) (V.move rfl rfl) rfl ?_
    refine RL.val (Wanted.free rfl) (V.nilCheck rfl rfl) rfl ?_
    refine RL.val (Wanted.free rfl) (V.fieldAddr rfl rfl fo103_4) rfl ?_
    refine RL.val (Wanted.free rfl) (V.load rfl on62 rfl pickX rfl) rfl ?_
    refine RL.val (Wanted.free rfl) (V.move rfl rfl) rfl ?_
    refine RL.val (Wanted.free rfl) (V.len rfl rfl el62.under rfl) rfl ?_
    refine RL.val (Wanted.free rfl) (V.to64 rfl ⟨_, ui3⟩ ui99 rfl) rfl ?_
    rw [len64w]
    refine RL.eff (Wanted.free rfl) (E.call rfl go69 rfl (number_ok (UInt64.ofNat rec.length) (k := 4) pickX (by omega) (by decide))) rfl ?_
    rintro _ _ ⟨a30, c30, rfl, rfl⟩
    rw [show (UInt64.ofNat rec.length).toNat = rec.length from by rw [UInt64.toNat_ofNat']; omega]
    refine RL.val (Wanted.free rfl) (V.move rfl rfl) rfl ?_
    refine RL.eff (Wanted.free rfl) (E.append (T := R8) rfl rfl rfl el62 el62.noInt rfl rfl pickX (Src.sl (T := R8) (l := rec) (by decide) memX) (by omega) (by omega)) rfl ?_
    intro _ _ hK34
    try rw [List.nil_append] at hK34
    try rw [Nat.zero_add] at hK34
    obtain ⟨a32, c32, rfl, rfl⟩ := hK34
    refine RL.val (Wanted.free rfl) (V.nilCheck rfl rfl) rfl ?_
    refine RL.val (Wanted.free rfl) (V.fieldAddr rfl rfl fo103_4) rfl ?_
    refine RL.eff (Wanted.free rfl) (E.store1 rfl rfl rfl rfl rfl sz62 pickX rfl) rfl ?_
    rintro _ _ rfl
    refine RL.nil ?_
    refine SG.seq ?_
    refine SG.drawN 12 11 (Blk b 103 (lgc db { g with data := g.data ++ leb 4 rec.length ++ rec } (.slice a32 (dn + 4 + rec.length) c32) (.slice ra rn rc)) :: L2) wide rfl rfl (by repeat (first | exact Ent.refl _ | (apply Ent.cons; (· repeat (first | exact Pick.here | (refine Pick.sl ?_; (· repeat (first | exact List.Mem.head _ | assumption | apply List.Mem.tail))) | apply Pick.there))) | (refine Ent.trans (Ent.drop _ _) ?_))) ?_
    refine RH.val 0 rfl krX krX krX krX (Wanted.free rfl) (V.move rfl rfl) rfl ?_
    refine RH.val 1 rfl krX krX krX krX (Wanted.free rfl) (V.move rfl rfl) rfl ?_
    refine RH.val 2 rfl krX krX krX krX (Wanted.free rfl) (V.nilCheck rfl rfl) rfl ?_
    refine RH.val 3 rfl krX krX krX krX (Wanted.free rfl) (V.fieldAddr rfl rfl fo103_5) rfl ?_
    refine RH.val 4 rfl krX krX krX krX (Wanted.free rfl) (V.load rfl on36 rfl pickX rfl) rfl ?_
    refine RH.val 5 rfl krX krX krX krX (Wanted.free rfl) (V.move rfl rfl) rfl ?_
    refine RH.one (i := 6) krX ?_
    refine RHone.eff rfl (Wanted.free rfl) (E.call rfl go70 rfl (clone8_ok (l := rec) (Src.sl (by decide) memX) rfl hnn (by omega))) rfl ?_
    rintro _ _ ⟨a41, c41, rfl, rfl⟩
    refine ⟨.inr entX, ?_⟩
    refine RH.publish (T := R8) (a := a41) Pick.here ?_
    refine RH.one (i := 7) krX ?_
    refine RHone.eff rfl (Wanted.free rfl) (E.lit1 [.slice a41 rec.length c41] rfl el36.slice ze62 rfl (by decide) (by decide) rfl rfl rfl) rfl ?_
    rintro _ _ ⟨b42, rfl, rfl⟩
    refine ⟨.inr entX, ?_⟩
    refine RH.one (i := 8) krX ?_
    refine RHone.eff rfl (Wanted.free rfl) (E.append (T := (Rep.slice R8)) rfl rfl rfl el36 el36.noInt rfl rfl pickX (Src.litSl (y := rec) pickX memX) (by first | omega | (simp; omega)) (by first | omega | (simp; omega))) rfl ?_
    intro _ _ hK46
    try rw [List.nil_append] at hK46
    try rw [Nat.zero_add] at hK46
    obtain ⟨a43, c43, rfl, rfl⟩ := hK46
    refine ⟨.inr entX, ?_⟩
    refine RH.pure 9 rfl krX krX krX krX (Wanted.free rfl) (V.nilCheck rfl rfl) rfl ?_
    refine RH.val 10 rfl krX krX krX krX (Wanted.free rfl) (V.fieldAddr rfl rfl fo103_5) rfl ?_
    refine RH.one (i := 11) krX ?_
    refine RHone.eff rfl (Wanted.free rfl) (E.store1 rfl rfl rfl rfl rfl sz36 pickX rfl) rfl ?_
    rintro _ _ rfl
    refine ⟨.inl krX, ?_⟩
    refine RH.done krX ?_
    refine SG.seq ?_
    refine SG.region ?_
    refine RL.val (Wanted.free rfl) (V.move rfl rfl) rfl ?_
    refine RL.val (Wanted.free rfl) (V.nilCheck rfl rfl) rfl ?_
    refine RL.val (Wanted.free rfl) (V.fieldAddr rfl rfl fo103_6) rfl ?_
    refine RL.val (Wanted.free rfl) (V.load rfl on3 rfl pickX rfl) rfl ?_
    refine RL.val (Wanted.free rfl) (V.move rfl rfl) rfl ?_
    refine RL.val (Wanted.free rfl) (V.len rfl rfl el62.under rfl) rfl ?_
    refine RL.val (Wanted.free rfl) (V.bin rfl rfl rfl (B.addI (by omega) (by omega))) rfl ?_
    refine RL.val (Wanted.free rfl) (V.bin rfl rfl rfl (B.addI (by omega) (by omega))) rfl ?_
    refine RL.val (Wanted.free rfl) (V.nilCheck rfl rfl) rfl ?_
    refine RL.val (Wanted.free rfl) (V.fieldAddr rfl rfl fo103_6) rfl ?_
    refine RL.eff (Wanted.free rfl) (E.store1 rfl rfl rfl rfl rfl sz3 pickX rfl) rfl ?_
    rintro _ _ rfl
    refine RL.nil ?_
    refine SG.seq ?_
    refine SG.region ?_
    refine RL.val (Wanted.free rfl) (V.assign rfl rfl) rfl ?_
    refine RL.nil ?_
    refine SG.retE (Ret.r1 Tryd.func37 rfl (.tmp rfl)) ?_ ⟨by rw [hae], rfl⟩
    rw [appL_ok hae]
    refine Lgm.ent (da := a32) (dn := (dn + 4 + rec.length)) (dc := c32) (ra := a43) (rn := (rn + 1)) (rc := c43) ?_
    exact entX

end Go.Proofs.YtcbloadpffjkiaaDoor
