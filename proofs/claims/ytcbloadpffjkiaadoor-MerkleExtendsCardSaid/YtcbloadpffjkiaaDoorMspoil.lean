/- What is changed in a proof. -/
import Derived.Test.YtcbloadpffjkiaaDoorMlives
namespace Go.Proofs.YtcbloadpffjkiaaDoor
open Go.Wk Go.Mk Go.Sha

set_option maxRecDepth 100000 in
set_option maxHeartbeats 1000000 in
theorem spoilt_ok {κ : World} {L : List Assn} {a : Option Addr} {m c : Nat} {p : List Hs} {w at_ b : Int} {h : Hs} (hm : Sl (RArr8 32) a m c p ∈ L) (hb : p.length ≤ 1000) (hw : inInt w) (hat : inInt at_) (hbi : inInt b) (hh : h.length = 32) :
    Ctr Tryd.prog 29 #[.slice a m c, .agg (vI w :: vI at_ :: vI b :: h.map v8).toArray] κ L (fun v M => ∃ (a2 : Option Addr) (c2 : Nat) (q : List Hs) (x y : Int), q.length ≤ p.length + 1 ∧ 0 ≤ x ∧ x ≤ 2 ∧ 0 ≤ y ∧ y ≤ 2 ∧ v = .tuple #[.slice a2 q.length c2, vI x, vI y] ∧ M = Sl (RArr8 32) a2 q.length c2 q :: L) := by
 refine Ctr.enter (vs := [.slice a m c, .agg (vI w :: vI at_ :: vI b :: h.map v8).toArray]) (m := 55) Tryd.func29 rfl rfl rfl ?_
 refine SG.sl (T := RArr8 32) (a := a) (l := p) memX fun hmp hc hc63 => ?_
 subst hmp
 unfold inInt at hw hat hbi
 obtain ⟨r3, hr3, hr32⟩ := aroundV_nat (n := b) (most := 3) (by omega)
 obtain ⟨r6, hr6, hr62⟩ := aroundV_nat (n := w) (most := 6) (by omega)
 refine SG.seq ?_
 refine SG.region ?_
 refine RL.eff (Wanted.free rfl) (E.box (vI w :: vI at_ :: vI b :: h.map v8) rfl rfl rfl) rfl ?_
 rintro _ _ ⟨b3, rfl, rfl⟩
 refine RL.val (Wanted.free rfl) (V.assign rfl rfl) rfl ?_
 refine RL.val (Wanted.free rfl) (V.assign rfl rfl) rfl ?_
 refine RL.val (Wanted.free rfl) (V.assign rfl rfl) rfl ?_
 refine RL.nil ?_
 refine SG.seq ?_
 refine SG.region ?_
 refine RL.eff (Wanted.free rfl) (E.lit0 (T := RArr8 32) rfl rfl el22) rfl ?_
 rintro _ _ ⟨b9, rfl, rfl⟩
 refine RL.val (Wanted.free rfl) (V.move rfl rfl) rfl ?_
 refine RL.eff (Wanted.free rfl) (E.append (T := (RArr8 32)) rfl rfl rfl el22 el22.noInt rfl rfl pickX (Src.sl (T := RArr8 32) (a := a) (l := p) (by decide) memX) (by first | omega | (simp; omega)) (by first | omega | (simp; omega))) rfl ?_
 intro _ _ hK7
 try rw [List.nil_append] at hK7
 try rw [Nat.zero_add] at hK7
 obtain ⟨a11, c11, rfl, rfl⟩ := hK7
 refine RL.val (Wanted.free rfl) (V.assign rfl rfl) rfl ?_
 refine RL.nil ?_
 refine SG.seq ?_
 refine SG.region ?_
 refine RL.val (Wanted.free rfl) (V.fieldAddr rfl rfl fo46_2) rfl ?_
 refine RL.val (Wanted.free rfl) (V.load rfl on3 rfl pickX rfl) rfl ?_
 refine RL.eff (Wanted.free rfl) (E.call rfl go16 rfl (around_ok _ _ (by omega) (by omega) (by omega))) rfl ?_
 rintro _ _ ⟨rfl, rfl⟩
 rw [hr3]
 refine RL.val (Wanted.free rfl) (V.assign rfl rfl) rfl ?_
 refine RL.nil ?_
 refine SG.seq ?_
 refine SG.seq ?_
 refine SG.region ?_
 refine RL.val (Wanted.free rfl) (V.fieldAddr rfl rfl fo46_0) rfl ?_
 refine RL.val (Wanted.free rfl) (V.load rfl on3 rfl pickX rfl) rfl ?_
 refine RL.eff (Wanted.free rfl) (E.call rfl go16 rfl (around_ok _ _ (by omega) (by omega) (by omega))) rfl ?_
 rintro _ _ ⟨rfl, rfl⟩
 rw [hr6]
 refine RL.nil ?_
 refine SG.block ?_
 refine SG.seq ?_
 refine SG.region ?_
 refine RL.cmp (Wanted.free rfl) (V.bin rfl rfl rfl B.eql) rfl (fun h16 => ?_) (fun h16 => ?_)
 ·
  refine RL.val (Wanted.free rfl) (V.assign rfl rfl) rfl ?_
  refine RL.nil ?_
  refine SG.cond_true rfl ?_
  refine SG.seq ?_
  refine SG.region ?_
  refine RL.val (Wanted.free rfl) (V.move rfl rfl) rfl ?_
  refine RL.val (Wanted.free rfl) (V.len rfl rfl el22.under rfl) rfl ?_
  refine RL.cmp (Wanted.free rfl) (V.bin rfl rfl rfl B.gtr) rfl (fun h20 => ?_) (fun h20 => ?_)
  ·
   refine RL.nil ?_
   refine SG.cond_true rfl ?_
   obtain ⟨q, hq, hq2⟩ := aroundV_nat (n := at_) (most := (p.length : Int)) (by omega)
   refine SG.buf (T := RArr8 32) (a := a11) (l := p) pickX fun _ hc5 _ => ?_
   refine SG.bufAd (T := RArr8 32) (a := a11) pickX (by omega) fun ad had => ?_
   subst had
   refine SG.drawL 10 9 wide rfl rfl ?_
   refine RH.val 0 rfl krX krX krX krX (Wanted.free rfl) (V.move rfl rfl) rfl ?_
   refine RH.val 1 rfl krX krX krX krX (Wanted.free rfl) (V.fieldAddr rfl rfl fo46_1) rfl ?_
   refine RH.val 2 rfl krX krX krX krX (Wanted.free rfl) (V.load rfl on3 rfl pickX rfl) rfl ?_
   refine RH.val 3 rfl krX krX krX krX (Wanted.free rfl) (V.move rfl rfl) rfl ?_
   refine RH.val 4 rfl krX krX krX krX (Wanted.free rfl) (V.len rfl rfl el22.under rfl) rfl ?_
   refine RH.val 6 rfl krX krX krX krX (Wanted.free rfl) (V.fieldAddr rfl rfl fo46_3) rfl ?_
   refine RH.val 7 rfl krX krX krX krX (Wanted.free rfl) (V.loadAgg (us := h.map v8) rfl ag25 rfl pickX (by exact take8 hh) (by rw [List.length_map]; exact hh)) rfl ?_
   refine RH.one (i := 5) krX ?_
   refine RHone.eff rfl (Wanted.free rfl) (E.call rfl go16 rfl (around_ok _ _ (by omega) (by omega) (by omega))) rfl ?_
   rintro _ _ ⟨rfl, rfl⟩
   refine ⟨.inr entX, ?_⟩
   rw [hq]
   refine RH.val 8 rfl krX krX krX krX (Wanted.free rfl) (V.indexAd (j := q) rfl el22.slice rfl rfl (by first | rfl | omega) (by omega)) rfl ?_
   refine RH.one (i := 9) krX ?_
   refine RHone.eff rfl (Wanted.free rfl) (E.storeBuf (T := RArr8 32) (j := q) (y := h) (h.map v8) rfl sz25 rfl rfl rfl pickX (by omega) (fun _ _ _ => ⟨rfl, hh⟩)) rfl ?_
   rintro _ _ rfl
   refine ⟨.inl krX, ?_⟩
   refine RH.done krX ?_
   refine SG.inBlock ?_
   refine SG.seq ?_
   refine SG.publish (T := RArr8 32) (a := some ad) pickX ?_
   refine SG.region ?_
   refine RL.val (Wanted.free rfl) (V.move rfl rfl) rfl ?_
   refine RL.val (Wanted.free rfl) (V.assign rfl rfl) rfl ?_
   refine RL.val (Wanted.free rfl) (V.assign rfl rfl) rfl ?_
   refine RL.val (Wanted.free rfl) (V.assign rfl rfl) rfl ?_
   refine RL.nil ?_
   refine SG.retE (Ret.r3 Tryd.func29 rfl (.tmp rfl) (.tmp rfl) (.tmp rfl)) ?_ ⟨_, _, p.set q h, 0, 0, by first | (simp; done) | (simp; omega), by omega, by omega, by omega, by omega, by rw [List.length_set], by rw [List.length_set]⟩
   exact entX
  ·
   refine RL.nil ?_
   refine SG.cond_false rfl ?_
   refine SG.skip ?_
   refine SG.inBlock ?_
   refine SG.seq ?_
   refine SG.publish (T := RArr8 32) (a := a11) pickX ?_
   refine SG.region ?_
   refine RL.val (Wanted.free rfl) (V.move rfl rfl) rfl ?_
   refine RL.val (Wanted.free rfl) (V.assign rfl rfl) rfl ?_
   refine RL.val (Wanted.free rfl) (V.assign rfl rfl) rfl ?_
   refine RL.val (Wanted.free rfl) (V.assign rfl rfl) rfl ?_
   refine RL.nil ?_
   refine SG.retE (Ret.r3 Tryd.func29 rfl (.tmp rfl) (.tmp rfl) (.tmp rfl)) ?_ ⟨_, _, p, 0, 0, by first | (simp; done) | (simp; omega), by omega, by omega, by omega, by omega, rfl, rfl⟩
   exact entX
 ·
  refine RL.val (Wanted.free rfl) (V.assign rfl rfl) rfl ?_
  refine RL.nil ?_
  refine SG.cond_false rfl ?_
  refine SG.seq ?_
  refine SG.region ?_
  refine RL.cmp (Wanted.free rfl) (V.bin rfl rfl rfl B.eql) rfl (fun h40 => ?_) (fun h40 => ?_)
  ·
   refine RL.val (Wanted.free rfl) (V.assign rfl rfl) rfl ?_
   refine RL.nil ?_
   refine SG.cond_true rfl ?_
   refine SG.seq ?_
   refine SG.region ?_
   refine RL.val (Wanted.free rfl) (V.move rfl rfl) rfl ?_
   refine RL.val (Wanted.free rfl) (V.fieldAddr rfl rfl fo46_3) rfl ?_
   refine RL.val (Wanted.free rfl) (V.loadAgg (us := h.map v8) rfl ag25 rfl pickX (by exact take8 hh) (by rw [List.length_map]; exact hh)) rfl ?_
   refine RL.eff (Wanted.free rfl) (E.lit1 ((h).map v8) rfl el22.slice ze25 (by simp) (by decide) (by decide) rfl rfl (by rw [List.length_map]; exact hh)) rfl ?_
   rintro _ _ ⟨b37, rfl, rfl⟩
   refine RL.eff (Wanted.free rfl) (E.append (T := (RArr8 32)) rfl rfl rfl el22 el22.noInt rfl rfl pickX (Src.litDt (y := h) pickX rfl hh) (by first | omega | (simp; omega)) (by first | omega | (simp; omega))) rfl ?_
   intro _ _ hK46
   try rw [List.nil_append] at hK46
   try rw [Nat.zero_add] at hK46
   obtain ⟨a38, c38, rfl, rfl⟩ := hK46
   refine RL.publish (T := RArr8 32) (a := a38) Pick.here ?_
   refine RL.val (Wanted.free rfl) (V.assign rfl rfl) rfl ?_
   refine RL.val (Wanted.free rfl) (V.assign rfl rfl) rfl ?_
   refine RL.val (Wanted.free rfl) (V.assign rfl rfl) rfl ?_
   refine RL.nil ?_
   refine SG.retE (Ret.r3 Tryd.func29 rfl (.tmp rfl) (.tmp rfl) (.tmp rfl)) ?_ ⟨_, _, p ++ [h], 0, 0, by first | (simp; done) | (simp; omega), by omega, by omega, by omega, by omega, by rw [List.length_append], by rw [List.length_append]⟩
   exact entX
  ·
   refine RL.val (Wanted.free rfl) (V.assign rfl rfl) rfl ?_
   refine RL.nil ?_
   refine SG.cond_false rfl ?_
   refine SG.seq ?_
   refine SG.region ?_
   refine RL.cmp (Wanted.free rfl) (V.bin rfl rfl rfl B.eql) rfl (fun h51 => ?_) (fun h51 => ?_)
   ·
    refine RL.val (Wanted.free rfl) (V.assign rfl rfl) rfl ?_
    refine RL.nil ?_
    refine SG.cond_true rfl ?_
    refine SG.seq ?_
    refine SG.region ?_
    refine RL.val (Wanted.free rfl) (V.move rfl rfl) rfl ?_
    refine RL.val (Wanted.free rfl) (V.len rfl rfl el22.under rfl) rfl ?_
    refine RL.cmp (Wanted.free rfl) (V.bin rfl rfl rfl B.gtr) rfl (fun h55 => ?_) (fun h55 => ?_)
    ·
     refine RL.nil ?_
     refine SG.cond_true rfl ?_
     refine SG.seq ?_
     refine SG.buf (T := RArr8 32) (a := a11) (l := p) pickX fun _ hc5 _ => ?_
     refine SG.publish (T := RArr8 32) (a := a11) pickX ?_
     refine SG.region ?_
     refine RL.val (Wanted.free rfl) (V.move rfl rfl) rfl ?_
     refine RL.eff (Wanted.free rfl) (E.slice (lo := 1) (hi := p.length) rfl el22.slice rfl memX ⟨_, _, rfl, (by first | rfl | omega)⟩ rfl (by omega) (by omega)) rfl ?_
     intro _ _ hK57
     try rw [List.drop_zero] at hK57
     iterate 2 (try rw [Nat.sub_zero] at hK57)
     rw [List.take_of_length_le (by rw [List.length_drop]; omega)] at hK57
     obtain ⟨a45, rfl, rfl⟩ := hK57
     refine RL.val (Wanted.free rfl) (V.assign rfl rfl) rfl ?_
     refine RL.val (Wanted.free rfl) (V.assign rfl rfl) rfl ?_
     refine RL.val (Wanted.free rfl) (V.assign rfl rfl) rfl ?_
     refine RL.nil ?_
     refine SG.retE (Ret.r3 Tryd.func29 rfl (.tmp rfl) (.tmp rfl) (.tmp rfl)) ?_ ⟨_, _, p.drop 1, 0, 0, by first | (simp; done) | (simp; omega), by omega, by omega, by omega, by omega, by rw [List.length_drop], by rw [List.length_drop]⟩
     exact entX
    ·
     refine RL.nil ?_
     refine SG.cond_false rfl ?_
     refine SG.skip ?_
     refine SG.inBlock ?_
     refine SG.seq ?_
     refine SG.publish (T := RArr8 32) (a := a11) pickX ?_
     refine SG.region ?_
     refine RL.val (Wanted.free rfl) (V.move rfl rfl) rfl ?_
     refine RL.val (Wanted.free rfl) (V.assign rfl rfl) rfl ?_
     refine RL.val (Wanted.free rfl) (V.assign rfl rfl) rfl ?_
     refine RL.val (Wanted.free rfl) (V.assign rfl rfl) rfl ?_
     refine RL.nil ?_
     refine SG.retE (Ret.r3 Tryd.func29 rfl (.tmp rfl) (.tmp rfl) (.tmp rfl)) ?_ ⟨_, _, p, 0, 0, by first | (simp; done) | (simp; omega), by omega, by omega, by omega, by omega, rfl, rfl⟩
     exact entX
   ·
    refine RL.val (Wanted.free rfl) (V.assign rfl rfl) rfl ?_
    refine RL.nil ?_
    refine SG.cond_false rfl ?_
    refine SG.seq ?_
    refine SG.region ?_
    refine RL.cmp (Wanted.free rfl) (V.bin rfl rfl rfl B.eql) rfl (fun h66 => ?_) (fun h66 => ?_)
    ·
     refine RL.val (Wanted.free rfl) (V.assign rfl rfl) rfl ?_
     refine RL.nil ?_
     refine SG.cond_true rfl ?_
     refine SG.seq ?_
     refine SG.publish (T := RArr8 32) (a := a11) pickX ?_
     refine SG.region ?_
     refine RL.val (Wanted.free rfl) (V.move rfl rfl) rfl ?_
     refine RL.val (Wanted.free rfl) (V.move rfl rfl) rfl ?_
     refine RL.val (Wanted.free rfl) (V.assign rfl rfl) rfl ?_
     refine RL.val (Wanted.free rfl) (V.assign rfl rfl) rfl ?_
     refine RL.val (Wanted.free rfl) (V.assign rfl rfl) rfl ?_
     refine RL.nil ?_
     refine SG.retE (Ret.r3 Tryd.func29 rfl (.tmp rfl) (.tmp rfl) (.tmp rfl)) ?_ ⟨_, _, p, (r3 : Int), 0, by first | (simp; done) | (simp; omega), by omega, by omega, by omega, by omega, rfl, rfl⟩
     exact entX
    ·
     refine RL.val (Wanted.free rfl) (V.assign rfl rfl) rfl ?_
     refine RL.nil ?_
     refine SG.cond_false rfl ?_
     refine SG.seq ?_
     refine SG.region ?_
     refine RL.cmp (Wanted.free rfl) (V.bin rfl rfl rfl B.eql) rfl (fun h74 => ?_) (fun h74 => ?_)
     ·
      refine RL.val (Wanted.free rfl) (V.assign rfl rfl) rfl ?_
      refine RL.nil ?_
      refine SG.cond_true rfl ?_
      refine SG.seq ?_
      refine SG.publish (T := RArr8 32) (a := a11) pickX ?_
      refine SG.region ?_
      refine RL.val (Wanted.free rfl) (V.move rfl rfl) rfl ?_
      refine RL.val (Wanted.free rfl) (V.move rfl rfl) rfl ?_
      refine RL.val (Wanted.free rfl) (V.assign rfl rfl) rfl ?_
      refine RL.val (Wanted.free rfl) (V.assign rfl rfl) rfl ?_
      refine RL.val (Wanted.free rfl) (V.assign rfl rfl) rfl ?_
      refine RL.nil ?_
      refine SG.retE (Ret.r3 Tryd.func29 rfl (.tmp rfl) (.tmp rfl) (.tmp rfl)) ?_ ⟨_, _, p, 0, (r3 : Int), by first | (simp; done) | (simp; omega), by omega, by omega, by omega, by omega, rfl, rfl⟩
      exact entX
     ·
      refine RL.val (Wanted.free rfl) (V.assign rfl rfl) rfl ?_
      refine RL.nil ?_
      refine SG.cond_false rfl ?_
      refine SG.skip ?_
      refine SG.inBlock ?_
      refine SG.seq ?_
      refine SG.publish (T := RArr8 32) (a := a11) pickX ?_
      refine SG.region ?_
      refine RL.val (Wanted.free rfl) (V.move rfl rfl) rfl ?_
      refine RL.val (Wanted.free rfl) (V.assign rfl rfl) rfl ?_
      refine RL.val (Wanted.free rfl) (V.assign rfl rfl) rfl ?_
      refine RL.val (Wanted.free rfl) (V.assign rfl rfl) rfl ?_
      refine RL.nil ?_
      refine SG.retE (Ret.r3 Tryd.func29 rfl (.tmp rfl) (.tmp rfl) (.tmp rfl)) ?_ ⟨_, _, p, 0, 0, by first | (simp; done) | (simp; omega), by omega, by omega, by omega, by omega, rfl, rfl⟩
      exact entX

end Go.Proofs.YtcbloadpffjkiaaDoor
