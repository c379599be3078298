/- Parse. -/
import Derived.Test.YteopejoppdgncaaDoorBasic
namespace Go.Proofs.YteopejoppdgncaaDoor
open Go.Wk Go.Lb

set_option maxRecDepth 100000 in
set_option maxHeartbeats 1000000 in
theorem lParse_ok {κ : World} {L : List Assn} {s : List UInt8} :
    Ctr Tryd.prog 20 #[vS s] κ L (fun v M => v = .tuple #[(.agg ([vI (parseV 7 5 s).1.num, vI (parseV 7 5 s).1.suf] : List Value).toArray), vI (parseV 7 5 s).2] ∧ M = L) := by
 refine Ctr.enter (vs := [vS s]) (m := 85) Tryd.func20 rfl rfl rfl ?_
 refine SG.seq ?_
 refine SG.region ?_
 refine RL.eff (Wanted.free rfl) (E.alloc rfl ze23) rfl ?_
 rintro _ _ ⟨b2, rfl, rfl⟩
 refine RL.val (Wanted.free rfl) (V.assign rfl rfl) rfl ?_
 refine RL.nil ?_
 refine SG.seq ?_
 refine SG.region ?_
 refine RL.eff (Wanted.free rfl) (E.alloc rfl ze23) rfl ?_
 rintro _ _ ⟨b4, rfl, rfl⟩
 refine RL.nil ?_
 refine SG.seq ?_
 refine SG.region ?_
 refine RL.val (Wanted.free rfl) (V.assign rfl rfl) rfl ?_
 refine RL.val (Wanted.free rfl) (V.assign rfl rfl) rfl ?_
 refine RL.nil ?_
 refine SG.seq ?_
 refine SG.seq ?_
 refine SG.region ?_
 refine RL.val (Wanted.free rfl) (V.move rfl rfl) rfl ?_
 refine RL.eff (Wanted.free rfl) (E.rangeStr rfl us9 rfl) rfl ?_
 rintro _ _ ⟨it10, rfl, rfl⟩
 refine RL.nil ?_
 refine SG.block ?_
 refine SG.weaken (SG.loop2 (fun m0 al M => ∃ (k : Nat) (d r : List UInt8), Pre s k d r ∧ m0 = s.length + 1 - k ∧ al = [(2, ptr b2 0), (4, ptr b4 0), (5, vI d.length), (6, vI r.length), (10, ptr it10 0)] ∧ M = Blk b4 23 [vI (nval d : Nat), vI (lval r : Nat)] :: SIt it10 s k :: Blk b2 23 [vI 0, vI 0] :: L) (m0 := _) ⟨0, [], [], Pre.nil s, rfl, rfl, rfl⟩ ?_) ?_ ?_
 rotate_left
 ·
  repeat (first | exact EnvLe.nil _ | refine EnvLe.cons rfl ?_)
 ·
  exact entX
 rintro _ _ _ ⟨k, d, r, hpre, rfl, rfl, rfl⟩ ih0
 refine SG.seq ?_
 refine SG.region ?_
 refine RL.eff (Wanted.free rfl) (E.nextStr rfl rfl pickX) rfl ?_
 rintro _ _ (⟨hend, rfl, rfl⟩ | ⟨u, c, k2, hu, rfl, rfl, hc⟩)
 ·
  refine RL.val (Wanted.free rfl) (V.extract rfl rfl rfl) rfl ?_
  refine RL.nil ?_
  refine SG.seq ?_
  refine SG.cond_false rfl ?_
  refine SG.exit rfl ?_
  refine SG.seq ?_
  refine SG.block ?_
  refine SG.seq ?_
  have hke : k = s.length := by have := hpre.le; omega
  refine SG.region ?_
  refine RL.val (Wanted.free rfl) (V.move rfl rfl) rfl ?_
  refine RL.cmp (Wanted.free rfl) (V.bin rfl rfl rfl B.eql) rfl (fun h11 => ?_) (fun h11 => ?_)
  ·
   refine RL.val (Wanted.free rfl) (V.assign rfl rfl) rfl ?_
   refine RL.nil ?_
   refine SG.cond_true rfl ?_
   refine SG.seq ?_
   obtain rfl : d = [] := List.eq_nil_of_length_eq_zero (by omega)
   have hbad := hpre.none hke
   refine SG.region ?_
   refine RL.val (Wanted.free rfl) (V.buildS [] rfl bs23 (by exact trivial) rfl) rfl ?_
   refine RL.eff (Wanted.free rfl) (E.storeWhole rfl rfl rfl (by rfl) sz23 pickX (by first | (simp [Value.oneCell']; done) | (simp [setAt, Value.oneCell']; done)) (by rfl)) rfl ?_
   rintro _ _ rfl
   refine RL.val (Wanted.free rfl) (V.assign rfl rfl) rfl ?_
   refine RL.nil ?_
   refine SG.retE (Ret.r2 Tryd.func20 rfl (.agg rfl ag23 pickX rfl rfl) (.tmp rfl)) ?_ ⟨by first | (rw [parseV, if_pos hbad]; rfl) | (rw [hall, if_neg hno]; rfl) | (rw [hall, if_pos hyes]; rfl), rfl⟩
   exact entX
  ·
   refine RL.val (Wanted.free rfl) (V.assign rfl rfl) rfl ?_
   refine RL.nil ?_
   refine SG.cond_false rfl ?_
   refine SG.seq ?_
   have hdn : d ≠ [] := fun e => absurd (show d.length = 0 by rw [e]; rfl) (by omega)
   have hall := hpre.all (eF := 7) (eR := 5) hke hdn
   have hnv := nval5 hpre.dg hpre.d5
   have hlv := lval4 hpre.lt hpre.r4
   refine SG.region ?_
   refine RL.val (Wanted.free rfl) (V.loadAgg (us := [vI (nval d : Nat), vI (lval r : Nat)]) rfl ag23 rfl pickX rfl rfl) rfl ?_
   refine RL.eff (Wanted.free rfl) (E.call rfl go14 rfl (lCheck_ok (l := ⟨nval d, lval r⟩))) rfl ?_
   rintro _ _ ⟨rfl, rfl⟩
   refine RL.cmp (Wanted.free rfl) (V.bin rfl rfl rfl B.neq) rfl (fun h19 => ?_) (fun h19 => ?_)
   ·
    have hno := check_bad_of h19
    refine RL.val (Wanted.free rfl) (V.assign rfl rfl) rfl ?_
    refine RL.nil ?_
    refine SG.cond_true rfl ?_
    refine SG.seq ?_
    refine SG.region ?_
    refine RL.val (Wanted.free rfl) (V.buildS [] rfl bs23 (by exact trivial) rfl) rfl ?_
    refine RL.eff (Wanted.free rfl) (E.storeWhole rfl rfl rfl (by rfl) sz23 pickX (by first | (simp [Value.oneCell']; done) | (simp [setAt, Value.oneCell']; done)) (by rfl)) rfl ?_
    rintro _ _ rfl
    refine RL.val (Wanted.free rfl) (V.assign rfl rfl) rfl ?_
    refine RL.nil ?_
    refine SG.retE (Ret.r2 Tryd.func20 rfl (.agg rfl ag23 pickX rfl rfl) (.tmp rfl)) ?_ ⟨by first | (rw [parseV, if_pos hbad]; rfl) | (rw [hall, if_neg hno]; rfl) | (rw [hall, if_pos hyes]; rfl), rfl⟩
    exact entX
   ·
    have hyes := check_ok_of (Decidable.byContradiction fun e => h19 e)
    refine RL.val (Wanted.free rfl) (V.assign rfl rfl) rfl ?_
    refine RL.nil ?_
    refine SG.cond_false rfl ?_
    refine SG.skip ?_
    refine SG.inBlock ?_
    refine SG.seq ?_
    refine SG.region ?_
    refine RL.val (Wanted.free rfl) (V.loadAgg (us := [vI (nval d : Nat), vI (lval r : Nat)]) rfl ag23 rfl pickX rfl rfl) rfl ?_
    refine RL.eff (Wanted.free rfl) (E.storeWhole rfl rfl rfl (by rfl) sz23 pickX (by first | (simp [Value.oneCell']; done) | (simp [setAt, Value.oneCell']; done)) (by rfl)) rfl ?_
    rintro _ _ rfl
    refine RL.val (Wanted.free rfl) (V.assign rfl rfl) rfl ?_
    refine RL.nil ?_
    refine SG.retE (Ret.r2 Tryd.func20 rfl (.agg rfl ag23 pickX rfl rfl) (.tmp rfl)) ?_ ⟨by first | (rw [parseV, if_pos hbad]; rfl) | (rw [hall, if_neg hno]; rfl) | (rw [hall, if_pos hyes]; rfl), rfl⟩
    exact entX
 ·
  have hpl := hpre.len
  have hu2 := u.toNat_lt
  refine RL.val (Wanted.free rfl) (V.extract rfl rfl rfl) rfl ?_
  refine RL.nil ?_
  refine SG.seq ?_
  refine SG.cond_true rfl ?_
  refine SG.skip ?_
  refine SG.block ?_
  refine SG.seq ?_
  refine SG.region ?_
  refine RL.val (Wanted.free rfl) (V.extract rfl rfl rfl) rfl ?_
  refine RL.val (Wanted.free rfl) (V.extract rfl rfl rfl) rfl ?_
  refine RL.val (Wanted.free rfl) (V.assign rfl rfl) rfl ?_
  refine RL.val (Wanted.free rfl) (V.assign rfl rfl) rfl ?_
  refine RL.nil ?_
  refine SG.block ?_
  refine SG.seq ?_
  refine SG.region ?_
  refine RL.val (Wanted.free rfl) (V.move rfl rfl) rfl ?_
  refine RL.cmp (Wanted.free rfl) (V.bin rfl rfl rfl B.geq) rfl (fun h34 => ?_) (fun h34 => ?_)
  ·
   refine RL.val (Wanted.free rfl) (V.move rfl rfl) rfl ?_
   refine RL.val (Wanted.yes rfl rfl rfl rfl) (V.move rfl rfl) rfl ?_
   refine RL.cmp (Wanted.yes rfl rfl rfl rfl) (V.bin rfl rfl rfl B.leq) rfl (fun h37 => ?_) (fun h37 => ?_)
   ·
    refine RL.val (Wanted.free rfl) (V.pick_true rfl rfl rfl) rfl ?_
    refine RL.val (Wanted.free rfl) (V.move rfl rfl) rfl ?_
    refine RL.val (Wanted.yes rfl rfl rfl rfl) (V.move rfl rfl) rfl ?_
    refine RL.cmp (Wanted.yes rfl rfl rfl rfl) (V.bin rfl rfl rfl B.eql) rfl (fun h40 => ?_) (fun h40 => ?_)
    ·
     refine RL.val (Wanted.free rfl) (V.pick_true rfl rfl rfl) rfl ?_
     refine RL.val (Wanted.free rfl) (V.move rfl rfl) rfl ?_
     refine RL.val (Wanted.yes rfl rfl rfl rfl) (V.move rfl rfl) rfl ?_
     refine RL.cmp (Wanted.yes rfl rfl rfl rfl) (V.bin rfl rfl rfl B.lss) rfl (fun h43 => ?_) (fun h43 => ?_)
     ·
      refine RL.val (Wanted.free rfl) (V.pick_true rfl rfl rfl) rfl ?_
      refine RL.val (Wanted.free rfl) (V.move rfl rfl) rfl ?_
      refine RL.val (Wanted.yes rfl rfl rfl rfl) (V.move rfl rfl) rfl ?_
      refine RL.cmp (Wanted.yes rfl rfl rfl rfl) (V.bin rfl rfl rfl B.gtr) rfl (fun h46 => ?_) (fun h46 => ?_)
      ·
       refine RL.val (Wanted.yes rfl rfl rfl rfl) (V.move rfl rfl) rfl ?_
       refine RL.skip (Wanted.no rfl rfl rfl rfl rfl) rfl ?_
       refine RL.skip (Wanted.no rfl rfl rfl rfl rfl) rfl ?_
       refine RL.val (Wanted.yes rfl rfl rfl rfl) (V.pick_true rfl rfl rfl) rfl ?_
       refine RL.val (Wanted.free rfl) (V.pick_true rfl rfl rfl) rfl ?_
       refine RL.val (Wanted.free rfl) (V.assign rfl rfl) rfl ?_
       refine RL.nil ?_
       refine SG.cond_true rfl ?_
       refine SG.seq ?_
       obtain rfl : r = [] := List.eq_nil_of_length_eq_zero (by omega)
       obtain ⟨hcu, rfl⟩ : c = u.toNat ∧ k2 = k + 1 := by omega
       have hp2 := hpre.sd hu (dig_iff.2 (by omega)) (by omega) (by omega)
       have hnv := nval5 hpre.dg hpre.d5
       refine SG.region ?_
       refine RL.val (Wanted.free rfl) (V.fieldAddr rfl rfl fo23_0) rfl ?_
       refine RL.val (Wanted.free rfl) (V.load rfl on3 rfl pickX rfl) rfl ?_
       refine RL.val (Wanted.free rfl) (V.bin rfl rfl rfl (B.mulI (by omega) (by omega))) rfl ?_
       refine RL.val (Wanted.free rfl) (V.move rfl rfl) rfl ?_
       refine RL.val (Wanted.free rfl) (V.bin rfl rfl rfl (B.subR (by omega) (by omega))) rfl ?_
       refine RL.val (Wanted.free rfl) (V.toI rfl ⟨_, ui21⟩ ui3 rfl (by omega) (by omega)) rfl ?_
       refine RL.val (Wanted.free rfl) (V.bin rfl rfl rfl (B.addI (by omega) (by omega))) rfl ?_
       rw [show (10 * ((nval d : Nat) : Int) + ((c : Int) - 48)) = ((nval (d ++ [u]) : Nat) : Int) from by rw [nval_snoc]; omega]
       refine RL.val (Wanted.free rfl) (V.fieldAddr rfl rfl fo23_0) rfl ?_
       refine RL.eff (Wanted.free rfl) (E.store1 rfl rfl rfl rfl rfl sz3 pickX rfl) rfl ?_
       rintro _ _ rfl
       refine RL.nil ?_
       refine SG.region ?_
       refine RL.val (Wanted.free rfl) (V.move rfl rfl) rfl ?_
       refine RL.val (Wanted.free rfl) (V.bin rfl rfl rfl (B.addI (by omega) (by omega))) rfl ?_
       refine RL.val (Wanted.free rfl) (V.assign rfl rfl) rfl ?_
       refine RL.nil ?_
       refine SG.inBlock ?_
       refine SG.inBlock ?_
       refine SG.weaken (ih0 _ _ _ ?_ ⟨k + 1, d ++ [u], [], hp2, rfl, rfl, rfl⟩) ?_ ?_
       ·
        have := (List.getElem?_eq_some_iff.1 hu).1; omega
       ·
        rw [List.length_append, List.length_singleton]
        repeat (first | exact EnvLe.nil _ | refine EnvLe.cons rfl ?_)
       ·
        exact entX
      ·
       refine RL.val (Wanted.yes rfl rfl rfl rfl) (V.move rfl rfl) rfl ?_
       refine RL.val (Wanted.yes rfl rfl rfl rfl) (V.move rfl rfl) rfl ?_
       refine RL.cmp (Wanted.yes rfl rfl rfl rfl) (V.bin rfl rfl rfl B.neq) rfl (fun h63 => ?_) (fun h63 => ?_)
       ·
        refine RL.val (Wanted.yes rfl rfl rfl rfl) (V.pick_false rfl rfl rfl) rfl ?_
        refine RL.val (Wanted.free rfl) (V.pick_true rfl rfl rfl) rfl ?_
        refine RL.val (Wanted.free rfl) (V.assign rfl rfl) rfl ?_
        refine RL.nil ?_
        refine SG.cond_true rfl ?_
        refine SG.seq ?_
        obtain rfl : r = [] := List.eq_nil_of_length_eq_zero (by omega)
        obtain ⟨hcu, rfl⟩ : c = u.toNat ∧ k2 = k + 1 := by omega
        have hp2 := hpre.sd hu (dig_iff.2 (by omega)) (by omega) (by omega)
        have hnv := nval5 hpre.dg hpre.d5
        refine SG.region ?_
        refine RL.val (Wanted.free rfl) (V.fieldAddr rfl rfl fo23_0) rfl ?_
        refine RL.val (Wanted.free rfl) (V.load rfl on3 rfl pickX rfl) rfl ?_
        refine RL.val (Wanted.free rfl) (V.bin rfl rfl rfl (B.mulI (by omega) (by omega))) rfl ?_
        refine RL.val (Wanted.free rfl) (V.move rfl rfl) rfl ?_
        refine RL.val (Wanted.free rfl) (V.bin rfl rfl rfl (B.subR (by omega) (by omega))) rfl ?_
        refine RL.val (Wanted.free rfl) (V.toI rfl ⟨_, ui21⟩ ui3 rfl (by omega) (by omega)) rfl ?_
        refine RL.val (Wanted.free rfl) (V.bin rfl rfl rfl (B.addI (by omega) (by omega))) rfl ?_
        rw [show (10 * ((nval d : Nat) : Int) + ((c : Int) - 48)) = ((nval (d ++ [u]) : Nat) : Int) from by rw [nval_snoc]; omega]
        refine RL.val (Wanted.free rfl) (V.fieldAddr rfl rfl fo23_0) rfl ?_
        refine RL.eff (Wanted.free rfl) (E.store1 rfl rfl rfl rfl rfl sz3 pickX rfl) rfl ?_
        rintro _ _ rfl
        refine RL.nil ?_
        refine SG.region ?_
        refine RL.val (Wanted.free rfl) (V.move rfl rfl) rfl ?_
        refine RL.val (Wanted.free rfl) (V.bin rfl rfl rfl (B.addI (by omega) (by omega))) rfl ?_
        refine RL.val (Wanted.free rfl) (V.assign rfl rfl) rfl ?_
        refine RL.nil ?_
        refine SG.inBlock ?_
        refine SG.inBlock ?_
        refine SG.weaken (ih0 _ _ _ ?_ ⟨k + 1, d ++ [u], [], hp2, rfl, rfl, rfl⟩) ?_ ?_
        ·
         have := (List.getElem?_eq_some_iff.1 hu).1; omega
        ·
         rw [List.length_append, List.length_singleton]
         repeat (first | exact EnvLe.nil _ | refine EnvLe.cons rfl ?_)
        ·
         exact entX
       ·
        refine RL.val (Wanted.yes rfl rfl rfl rfl) (V.pick_false rfl rfl rfl) rfl ?_
        refine RL.val (Wanted.free rfl) (V.pick_true rfl rfl rfl) rfl ?_
        refine RL.val (Wanted.free rfl) (V.assign rfl rfl) rfl ?_
        refine RL.nil ?_
        refine SG.cond_false rfl ?_
        refine SG.seq ?_
        refine SG.region ?_
        refine RL.val (Wanted.free rfl) (V.move rfl rfl) rfl ?_
        refine RL.cmp (Wanted.free rfl) (V.bin rfl rfl rfl B.geq) rfl (fun h79 => ?_) (fun h79 => ?_)
        ·
         refine RL.val (Wanted.free rfl) (V.move rfl rfl) rfl ?_
         refine RL.val (Wanted.yes rfl rfl rfl rfl) (V.move rfl rfl) rfl ?_
         refine RL.cmp (Wanted.yes rfl rfl rfl rfl) (V.bin rfl rfl rfl B.leq) rfl (fun h82 => ?_) (fun h82 => ?_)
         ·
          refine RL.val (Wanted.free rfl) (V.pick_true rfl rfl rfl) rfl ?_
          refine RL.val (Wanted.free rfl) (V.move rfl rfl) rfl ?_
          refine RL.val (Wanted.yes rfl rfl rfl rfl) (V.move rfl rfl) rfl ?_
          refine RL.cmp (Wanted.yes rfl rfl rfl rfl) (V.bin rfl rfl rfl B.gtr) rfl (fun h85 => ?_) (fun h85 => ?_)
          ·
           refine RL.val (Wanted.free rfl) (V.pick_true rfl rfl rfl) rfl ?_
           refine RL.val (Wanted.free rfl) (V.move rfl rfl) rfl ?_
           refine RL.val (Wanted.yes rfl rfl rfl rfl) (V.move rfl rfl) rfl ?_
           refine RL.cmp (Wanted.yes rfl rfl rfl rfl) (V.bin rfl rfl rfl B.lss) rfl (fun h88 => ?_) (fun h88 => ?_)
           ·
            refine RL.val (Wanted.free rfl) (V.pick_true rfl rfl rfl) rfl ?_
            refine RL.val (Wanted.free rfl) (V.assign rfl rfl) rfl ?_
            refine RL.nil ?_
            refine SG.cond_true rfl ?_
            refine SG.seq ?_
            obtain ⟨hcu, rfl⟩ : c = u.toNat ∧ k2 = k + 1 := by omega
            have hdn : d ≠ [] := fun e => absurd (show d.length = 0 by rw [e]; rfl) (by omega)
            have hp2 := hpre.sl hu (ltr_iff.2 (by omega)) (by omega) hdn
            have hlv := lval4 hpre.lt hpre.r4
            refine SG.region ?_
            refine RL.val (Wanted.free rfl) (V.fieldAddr rfl rfl fo23_1) rfl ?_
            refine RL.val (Wanted.free rfl) (V.load rfl on3 rfl pickX rfl) rfl ?_
            refine RL.val (Wanted.free rfl) (V.bin rfl rfl rfl (B.mulI (by omega) (by omega))) rfl ?_
            refine RL.val (Wanted.free rfl) (V.move rfl rfl) rfl ?_
            refine RL.val (Wanted.free rfl) (V.bin rfl rfl rfl (B.subR (by omega) (by omega))) rfl ?_
            refine RL.val (Wanted.free rfl) (V.toI rfl ⟨_, ui21⟩ ui3 rfl (by omega) (by omega)) rfl ?_
            refine RL.val (Wanted.free rfl) (V.bin rfl rfl rfl (B.addI (by omega) (by omega))) rfl ?_
            refine RL.val (Wanted.free rfl) (V.bin rfl rfl rfl (B.addI (by omega) (by omega))) rfl ?_
            rw [show (26 * ((lval r : Nat) : Int) + ((c : Int) - 97) + 1) = ((lval (r ++ [u]) : Nat) : Int) from by rw [lval_snoc]; omega]
            refine RL.val (Wanted.free rfl) (V.fieldAddr rfl rfl fo23_1) rfl ?_
            refine RL.eff (Wanted.free rfl) (E.store1 rfl rfl rfl rfl rfl sz3 pickX rfl) rfl ?_
            rintro _ _ rfl
            refine RL.nil ?_
            refine SG.region ?_
            refine RL.val (Wanted.free rfl) (V.move rfl rfl) rfl ?_
            refine RL.val (Wanted.free rfl) (V.bin rfl rfl rfl (B.addI (by omega) (by omega))) rfl ?_
            refine RL.val (Wanted.free rfl) (V.assign rfl rfl) rfl ?_
            refine RL.nil ?_
            refine SG.inBlock ?_
            refine SG.inBlock ?_
            refine SG.weaken (ih0 _ _ _ ?_ ⟨k + 1, d, r ++ [u], hp2, rfl, rfl, rfl⟩) ?_ ?_
            ·
             have := (List.getElem?_eq_some_iff.1 hu).1; omega
            ·
             rw [List.length_append, List.length_singleton]
             repeat (first | exact EnvLe.nil _ | refine EnvLe.cons rfl ?_)
            ·
             exact entX
           ·
            refine RL.val (Wanted.free rfl) (V.pick_true rfl rfl rfl) rfl ?_
            refine RL.val (Wanted.free rfl) (V.assign rfl rfl) rfl ?_
            refine RL.nil ?_
            refine SG.cond_false rfl ?_
            refine SG.seq ?_
            have hbad := hpre.bad' hu (by omega) (by omega)
            refine SG.region ?_
            refine RL.val (Wanted.free rfl) (V.buildS [] rfl bs23 (by exact trivial) rfl) rfl ?_
            refine RL.eff (Wanted.free rfl) (E.storeWhole rfl rfl rfl (by rfl) sz23 pickX (by first | (simp [Value.oneCell']; done) | (simp [setAt, Value.oneCell']; done)) (by rfl)) rfl ?_
            rintro _ _ rfl
            refine RL.val (Wanted.free rfl) (V.assign rfl rfl) rfl ?_
            refine RL.nil ?_
            refine SG.retE (Ret.r2 Tryd.func20 rfl (.agg rfl ag23 pickX rfl rfl) (.tmp rfl)) ?_ ⟨by first | (rw [parseV, if_pos hbad]; rfl) | (rw [hall, if_neg hno]; rfl) | (rw [hall, if_pos hyes]; rfl), rfl⟩
            exact entX
          ·
           refine RL.val (Wanted.free rfl) (V.pick_true rfl rfl rfl) rfl ?_
           refine RL.val (Wanted.free rfl) (V.move rfl rfl) rfl ?_
           refine RL.skip (Wanted.no rfl rfl rfl rfl rfl) rfl ?_
           refine RL.skip (Wanted.no rfl rfl rfl rfl rfl) rfl ?_
           refine RL.val (Wanted.free rfl) (V.pick_false rfl rfl rfl) rfl ?_
           refine RL.val (Wanted.free rfl) (V.assign rfl rfl) rfl ?_
           refine RL.nil ?_
           refine SG.cond_false rfl ?_
           refine SG.seq ?_
           have hbad := hpre.bad' hu (by omega) (by omega)
           refine SG.region ?_
           refine RL.val (Wanted.free rfl) (V.buildS [] rfl bs23 (by exact trivial) rfl) rfl ?_
           refine RL.eff (Wanted.free rfl) (E.storeWhole rfl rfl rfl (by rfl) sz23 pickX (by first | (simp [Value.oneCell']; done) | (simp [setAt, Value.oneCell']; done)) (by rfl)) rfl ?_
           rintro _ _ rfl
           refine RL.val (Wanted.free rfl) (V.assign rfl rfl) rfl ?_
           refine RL.nil ?_
           refine SG.retE (Ret.r2 Tryd.func20 rfl (.agg rfl ag23 pickX rfl rfl) (.tmp rfl)) ?_ ⟨by first | (rw [parseV, if_pos hbad]; rfl) | (rw [hall, if_neg hno]; rfl) | (rw [hall, if_pos hyes]; rfl), rfl⟩
           exact entX
         ·
          refine RL.val (Wanted.free rfl) (V.pick_true rfl rfl rfl) rfl ?_
          refine RL.val (Wanted.free rfl) (V.move rfl rfl) rfl ?_
          refine RL.skip (Wanted.no rfl rfl rfl rfl rfl) rfl ?_
          refine RL.skip (Wanted.no rfl rfl rfl rfl rfl) rfl ?_
          refine RL.val (Wanted.free rfl) (V.pick_false rfl rfl rfl) rfl ?_
          refine RL.val (Wanted.free rfl) (V.move rfl rfl) rfl ?_
          refine RL.skip (Wanted.no rfl rfl rfl rfl rfl) rfl ?_
          refine RL.skip (Wanted.no rfl rfl rfl rfl rfl) rfl ?_
          refine RL.val (Wanted.free rfl) (V.pick_false rfl rfl rfl) rfl ?_
          refine RL.val (Wanted.free rfl) (V.assign rfl rfl) rfl ?_
          refine RL.nil ?_
          refine SG.cond_false rfl ?_
          refine SG.seq ?_
          have hbad := hpre.bad' hu (by omega) (by omega)
          refine SG.region ?_
          refine RL.val (Wanted.free rfl) (V.buildS [] rfl bs23 (by exact trivial) rfl) rfl ?_
          refine RL.eff (Wanted.free rfl) (E.storeWhole rfl rfl rfl (by rfl) sz23 pickX (by first | (simp [Value.oneCell']; done) | (simp [setAt, Value.oneCell']; done)) (by rfl)) rfl ?_
          rintro _ _ rfl
          refine RL.val (Wanted.free rfl) (V.assign rfl rfl) rfl ?_
          refine RL.nil ?_
          refine SG.retE (Ret.r2 Tryd.func20 rfl (.agg rfl ag23 pickX rfl rfl) (.tmp rfl)) ?_ ⟨by first | (rw [parseV, if_pos hbad]; rfl) | (rw [hall, if_neg hno]; rfl) | (rw [hall, if_pos hyes]; rfl), rfl⟩
          exact entX
        ·
         refine RL.val (Wanted.free rfl) (V.move rfl rfl) rfl ?_
         refine RL.skip (Wanted.no rfl rfl rfl rfl rfl) rfl ?_
         refine RL.skip (Wanted.no rfl rfl rfl rfl rfl) rfl ?_
         refine RL.val (Wanted.free rfl) (V.pick_false rfl rfl rfl) rfl ?_
         refine RL.val (Wanted.free rfl) (V.move rfl rfl) rfl ?_
         refine RL.skip (Wanted.no rfl rfl rfl rfl rfl) rfl ?_
         refine RL.skip (Wanted.no rfl rfl rfl rfl rfl) rfl ?_
         refine RL.val (Wanted.free rfl) (V.pick_false rfl rfl rfl) rfl ?_
         refine RL.val (Wanted.free rfl) (V.move rfl rfl) rfl ?_
         refine RL.skip (Wanted.no rfl rfl rfl rfl rfl) rfl ?_
         refine RL.skip (Wanted.no rfl rfl rfl rfl rfl) rfl ?_
         refine RL.val (Wanted.free rfl) (V.pick_false rfl rfl rfl) rfl ?_
         refine RL.val (Wanted.free rfl) (V.assign rfl rfl) rfl ?_
         refine RL.nil ?_
         refine SG.cond_false rfl ?_
         refine SG.seq ?_
         have hbad := hpre.bad' hu (by omega) (by omega)
         refine SG.region ?_
         refine RL.val (Wanted.free rfl) (V.buildS [] rfl bs23 (by exact trivial) rfl) rfl ?_
         refine RL.eff (Wanted.free rfl) (E.storeWhole rfl rfl rfl (by rfl) sz23 pickX (by first | (simp [Value.oneCell']; done) | (simp [setAt, Value.oneCell']; done)) (by rfl)) rfl ?_
         rintro _ _ rfl
         refine RL.val (Wanted.free rfl) (V.assign rfl rfl) rfl ?_
         refine RL.nil ?_
         refine SG.retE (Ret.r2 Tryd.func20 rfl (.agg rfl ag23 pickX rfl rfl) (.tmp rfl)) ?_ ⟨by first | (rw [parseV, if_pos hbad]; rfl) | (rw [hall, if_neg hno]; rfl) | (rw [hall, if_pos hyes]; rfl), rfl⟩
         exact entX
     ·
      refine RL.val (Wanted.free rfl) (V.pick_true rfl rfl rfl) rfl ?_
      refine RL.val (Wanted.free rfl) (V.move rfl rfl) rfl ?_
      refine RL.skip (Wanted.no rfl rfl rfl rfl rfl) rfl ?_
      refine RL.skip (Wanted.no rfl rfl rfl rfl rfl) rfl ?_
      refine RL.skip (Wanted.no rfl rfl rfl rfl rfl) rfl ?_
      refine RL.skip (Wanted.un rfl rfl rfl) rfl ?_
      refine RL.skip (Wanted.un rfl rfl rfl) rfl ?_
      refine RL.skip (Wanted.no rfl rfl rfl rfl rfl) rfl ?_
      refine RL.val (Wanted.free rfl) (V.pick_false rfl rfl rfl) rfl ?_
      refine RL.val (Wanted.free rfl) (V.assign rfl rfl) rfl ?_
      refine RL.nil ?_
      refine SG.cond_false rfl ?_
      refine SG.seq ?_
      refine SG.region ?_
      refine RL.val (Wanted.free rfl) (V.move rfl rfl) rfl ?_
      refine RL.cmp (Wanted.free rfl) (V.bin rfl rfl rfl B.geq) rfl (fun h128 => ?_) (fun h128 => ?_)
      ·
       refine RL.val (Wanted.free rfl) (V.move rfl rfl) rfl ?_
       refine RL.val (Wanted.yes rfl rfl rfl rfl) (V.move rfl rfl) rfl ?_
       refine RL.cmp (Wanted.yes rfl rfl rfl rfl) (V.bin rfl rfl rfl B.leq) rfl (fun h131 => ?_) (fun h131 => ?_)
       ·
        refine RL.val (Wanted.free rfl) (V.pick_true rfl rfl rfl) rfl ?_
        refine RL.val (Wanted.free rfl) (V.move rfl rfl) rfl ?_
        refine RL.val (Wanted.yes rfl rfl rfl rfl) (V.move rfl rfl) rfl ?_
        refine RL.cmp (Wanted.yes rfl rfl rfl rfl) (V.bin rfl rfl rfl B.gtr) rfl (fun h134 => ?_) (fun h134 => ?_)
        ·
         refine RL.val (Wanted.free rfl) (V.pick_true rfl rfl rfl) rfl ?_
         refine RL.val (Wanted.free rfl) (V.move rfl rfl) rfl ?_
         refine RL.val (Wanted.yes rfl rfl rfl rfl) (V.move rfl rfl) rfl ?_
         refine RL.cmp (Wanted.yes rfl rfl rfl rfl) (V.bin rfl rfl rfl B.lss) rfl (fun h137 => ?_) (fun h137 => ?_)
         ·
          refine RL.val (Wanted.free rfl) (V.pick_true rfl rfl rfl) rfl ?_
          refine RL.val (Wanted.free rfl) (V.assign rfl rfl) rfl ?_
          refine RL.nil ?_
          refine SG.cond_true rfl ?_
          refine SG.seq ?_
          obtain ⟨hcu, rfl⟩ : c = u.toNat ∧ k2 = k + 1 := by omega
          have hdn : d ≠ [] := fun e => absurd (show d.length = 0 by rw [e]; rfl) (by omega)
          have hp2 := hpre.sl hu (ltr_iff.2 (by omega)) (by omega) hdn
          have hlv := lval4 hpre.lt hpre.r4
          refine SG.region ?_
          refine RL.val (Wanted.free rfl) (V.fieldAddr rfl rfl fo23_1) rfl ?_
          refine RL.val (Wanted.free rfl) (V.load rfl on3 rfl pickX rfl) rfl ?_
          refine RL.val (Wanted.free rfl) (V.bin rfl rfl rfl (B.mulI (by omega) (by omega))) rfl ?_
          refine RL.val (Wanted.free rfl) (V.move rfl rfl) rfl ?_
          refine RL.val (Wanted.free rfl) (V.bin rfl rfl rfl (B.subR (by omega) (by omega))) rfl ?_
          refine RL.val (Wanted.free rfl) (V.toI rfl ⟨_, ui21⟩ ui3 rfl (by omega) (by omega)) rfl ?_
          refine RL.val (Wanted.free rfl) (V.bin rfl rfl rfl (B.addI (by omega) (by omega))) rfl ?_
          refine RL.val (Wanted.free rfl) (V.bin rfl rfl rfl (B.addI (by omega) (by omega))) rfl ?_
          rw [show (26 * ((lval r : Nat) : Int) + ((c : Int) - 97) + 1) = ((lval (r ++ [u]) : Nat) : Int) from by rw [lval_snoc]; omega]
          refine RL.val (Wanted.free rfl) (V.fieldAddr rfl rfl fo23_1) rfl ?_
          refine RL.eff (Wanted.free rfl) (E.store1 rfl rfl rfl rfl rfl sz3 pickX rfl) rfl ?_
          rintro _ _ rfl
          refine RL.nil ?_
          refine SG.region ?_
          refine RL.val (Wanted.free rfl) (V.move rfl rfl) rfl ?_
          refine RL.val (Wanted.free rfl) (V.bin rfl rfl rfl (B.addI (by omega) (by omega))) rfl ?_
          refine RL.val (Wanted.free rfl) (V.assign rfl rfl) rfl ?_
          refine RL.nil ?_
          refine SG.inBlock ?_
          refine SG.inBlock ?_
          refine SG.weaken (ih0 _ _ _ ?_ ⟨k + 1, d, r ++ [u], hp2, rfl, rfl, rfl⟩) ?_ ?_
          ·
           have := (List.getElem?_eq_some_iff.1 hu).1; omega
          ·
           rw [List.length_append, List.length_singleton]
           repeat (first | exact EnvLe.nil _ | refine EnvLe.cons rfl ?_)
          ·
           exact entX
         ·
          refine RL.val (Wanted.free rfl) (V.pick_true rfl rfl rfl) rfl ?_
          refine RL.val (Wanted.free rfl) (V.assign rfl rfl) rfl ?_
          refine RL.nil ?_
          refine SG.cond_false rfl ?_
          refine SG.seq ?_
          have hbad := hpre.bad' hu (by omega) (by omega)
          refine SG.region ?_
          refine RL.val (Wanted.free rfl) (V.buildS [] rfl bs23 (by exact trivial) rfl) rfl ?_
          refine RL.eff (Wanted.free rfl) (E.storeWhole rfl rfl rfl (by rfl) sz23 pickX (by first | (simp [Value.oneCell']; done) | (simp [setAt, Value.oneCell']; done)) (by rfl)) rfl ?_
          rintro _ _ rfl
          refine RL.val (Wanted.free rfl) (V.assign rfl rfl) rfl ?_
          refine RL.nil ?_
          refine SG.retE (Ret.r2 Tryd.func20 rfl (.agg rfl ag23 pickX rfl rfl) (.tmp rfl)) ?_ ⟨by first | (rw [parseV, if_pos hbad]; rfl) | (rw [hall, if_neg hno]; rfl) | (rw [hall, if_pos hyes]; rfl), rfl⟩
          exact entX
        ·
         refine RL.val (Wanted.free rfl) (V.pick_true rfl rfl rfl) rfl ?_
         refine RL.val (Wanted.free rfl) (V.move rfl rfl) rfl ?_
         refine RL.skip (Wanted.no rfl rfl rfl rfl rfl) rfl ?_
         refine RL.skip (Wanted.no rfl rfl rfl rfl rfl) rfl ?_
         refine RL.val (Wanted.free rfl) (V.pick_false rfl rfl rfl) rfl ?_
         refine RL.val (Wanted.free rfl) (V.assign rfl rfl) rfl ?_
         refine RL.nil ?_
         refine SG.cond_false rfl ?_
         refine SG.seq ?_
         have hbad := hpre.bad' hu (by omega) (by omega)
         refine SG.region ?_
         refine RL.val (Wanted.free rfl) (V.buildS [] rfl bs23 (by exact trivial) rfl) rfl ?_
         refine RL.eff (Wanted.free rfl) (E.storeWhole rfl rfl rfl (by rfl) sz23 pickX (by first | (simp [Value.oneCell']; done) | (simp [setAt, Value.oneCell']; done)) (by rfl)) rfl ?_
         rintro _ _ rfl
         refine RL.val (Wanted.free rfl) (V.assign rfl rfl) rfl ?_
         refine RL.nil ?_
         refine SG.retE (Ret.r2 Tryd.func20 rfl (.agg rfl ag23 pickX rfl rfl) (.tmp rfl)) ?_ ⟨by first | (rw [parseV, if_pos hbad]; rfl) | (rw [hall, if_neg hno]; rfl) | (rw [hall, if_pos hyes]; rfl), rfl⟩
         exact entX
       ·
        refine RL.val (Wanted.free rfl) (V.pick_true rfl rfl rfl) rfl ?_
        refine RL.val (Wanted.free rfl) (V.move rfl rfl) rfl ?_
        refine RL.skip (Wanted.no rfl rfl rfl rfl rfl) rfl ?_
        refine RL.skip (Wanted.no rfl rfl rfl rfl rfl) rfl ?_
        refine RL.val (Wanted.free rfl) (V.pick_false rfl rfl rfl) rfl ?_
        refine RL.val (Wanted.free rfl) (V.move rfl rfl) rfl ?_
        refine RL.skip (Wanted.no rfl rfl rfl rfl rfl) rfl ?_
        refine RL.skip (Wanted.no rfl rfl rfl rfl rfl) rfl ?_
        refine RL.val (Wanted.free rfl) (V.pick_false rfl rfl rfl) rfl ?_
        refine RL.val (Wanted.free rfl) (V.assign rfl rfl) rfl ?_
        refine RL.nil ?_
        refine SG.cond_false rfl ?_
        refine SG.seq ?_
        have hbad := hpre.bad' hu (by omega) (by omega)
        refine SG.region ?_
        refine RL.val (Wanted.free rfl) (V.buildS [] rfl bs23 (by exact trivial) rfl) rfl ?_
        refine RL.eff (Wanted.free rfl) (E.storeWhole rfl rfl rfl (by rfl) sz23 pickX (by first | (simp [Value.oneCell']; done) | (simp [setAt, Value.oneCell']; done)) (by rfl)) rfl ?_
        rintro _ _ rfl
        refine RL.val (Wanted.free rfl) (V.assign rfl rfl) rfl ?_
        refine RL.nil ?_
        refine SG.retE (Ret.r2 Tryd.func20 rfl (.agg rfl ag23 pickX rfl rfl) (.tmp rfl)) ?_ ⟨by first | (rw [parseV, if_pos hbad]; rfl) | (rw [hall, if_neg hno]; rfl) | (rw [hall, if_pos hyes]; rfl), rfl⟩
        exact entX
      ·
       refine RL.val (Wanted.free rfl) (V.move rfl rfl) rfl ?_
       refine RL.skip (Wanted.no rfl rfl rfl rfl rfl) rfl ?_
       refine RL.skip (Wanted.no rfl rfl rfl rfl rfl) rfl ?_
       refine RL.val (Wanted.free rfl) (V.pick_false rfl rfl rfl) rfl ?_
       refine RL.val (Wanted.free rfl) (V.move rfl rfl) rfl ?_
       refine RL.skip (Wanted.no rfl rfl rfl rfl rfl) rfl ?_
       refine RL.skip (Wanted.no rfl rfl rfl rfl rfl) rfl ?_
       refine RL.val (Wanted.free rfl) (V.pick_false rfl rfl rfl) rfl ?_
       refine RL.val (Wanted.free rfl) (V.move rfl rfl) rfl ?_
       refine RL.skip (Wanted.no rfl rfl rfl rfl rfl) rfl ?_
       refine RL.skip (Wanted.no rfl rfl rfl rfl rfl) rfl ?_
       refine RL.val (Wanted.free rfl) (V.pick_false rfl rfl rfl) rfl ?_
       refine RL.val (Wanted.free rfl) (V.assign rfl rfl) rfl ?_
       refine RL.nil ?_
       refine SG.cond_false rfl ?_
       refine SG.seq ?_
       have hbad := hpre.bad' hu (by omega) (by omega)
       refine SG.region ?_
       refine RL.val (Wanted.free rfl) (V.buildS [] rfl bs23 (by exact trivial) rfl) rfl ?_
       refine RL.eff (Wanted.free rfl) (E.storeWhole rfl rfl rfl (by rfl) sz23 pickX (by first | (simp [Value.oneCell']; done) | (simp [setAt, Value.oneCell']; done)) (by rfl)) rfl ?_
       rintro _ _ rfl
       refine RL.val (Wanted.free rfl) (V.assign rfl rfl) rfl ?_
       refine RL.nil ?_
       refine SG.retE (Ret.r2 Tryd.func20 rfl (.agg rfl ag23 pickX rfl rfl) (.tmp rfl)) ?_ ⟨by first | (rw [parseV, if_pos hbad]; rfl) | (rw [hall, if_neg hno]; rfl) | (rw [hall, if_pos hyes]; rfl), rfl⟩
       exact entX
    ·
     refine RL.val (Wanted.free rfl) (V.pick_true rfl rfl rfl) rfl ?_
     refine RL.val (Wanted.free rfl) (V.move rfl rfl) rfl ?_
     refine RL.skip (Wanted.no rfl rfl rfl rfl rfl) rfl ?_
     refine RL.skip (Wanted.no rfl rfl rfl rfl rfl) rfl ?_
     refine RL.val (Wanted.free rfl) (V.pick_false rfl rfl rfl) rfl ?_
     refine RL.val (Wanted.free rfl) (V.move rfl rfl) rfl ?_
     refine RL.skip (Wanted.no rfl rfl rfl rfl rfl) rfl ?_
     refine RL.skip (Wanted.no rfl rfl rfl rfl rfl) rfl ?_
     refine RL.skip (Wanted.no rfl rfl rfl rfl rfl) rfl ?_
     refine RL.skip (Wanted.un rfl rfl rfl) rfl ?_
     refine RL.skip (Wanted.un rfl rfl rfl) rfl ?_
     refine RL.skip (Wanted.no rfl rfl rfl rfl rfl) rfl ?_
     refine RL.val (Wanted.free rfl) (V.pick_false rfl rfl rfl) rfl ?_
     refine RL.val (Wanted.free rfl) (V.assign rfl rfl) rfl ?_
     refine RL.nil ?_
     refine SG.cond_false rfl ?_
     refine SG.seq ?_
     refine SG.region ?_
     refine RL.val (Wanted.free rfl) (V.move rfl rfl) rfl ?_
     refine RL.cmp (Wanted.free rfl) (V.bin rfl rfl rfl B.geq) rfl (fun h178 => ?_) (fun h178 => ?_)
     ·
      refine RL.val (Wanted.free rfl) (V.move rfl rfl) rfl ?_
      refine RL.val (Wanted.yes rfl rfl rfl rfl) (V.move rfl rfl) rfl ?_
      refine RL.cmp (Wanted.yes rfl rfl rfl rfl) (V.bin rfl rfl rfl B.leq) rfl (fun h181 => ?_) (fun h181 => ?_)
      ·
       refine RL.val (Wanted.free rfl) (V.pick_true rfl rfl rfl) rfl ?_
       refine RL.val (Wanted.free rfl) (V.move rfl rfl) rfl ?_
       refine RL.val (Wanted.yes rfl rfl rfl rfl) (V.move rfl rfl) rfl ?_
       refine RL.cmp (Wanted.yes rfl rfl rfl rfl) (V.bin rfl rfl rfl B.gtr) rfl (fun h184 => ?_) (fun h184 => ?_)
       ·
        refine RL.val (Wanted.free rfl) (V.pick_true rfl rfl rfl) rfl ?_
        refine RL.val (Wanted.free rfl) (V.move rfl rfl) rfl ?_
        refine RL.val (Wanted.yes rfl rfl rfl rfl) (V.move rfl rfl) rfl ?_
        refine RL.cmp (Wanted.yes rfl rfl rfl rfl) (V.bin rfl rfl rfl B.lss) rfl (fun h187 => ?_) (fun h187 => ?_)
        ·
         refine RL.val (Wanted.free rfl) (V.pick_true rfl rfl rfl) rfl ?_
         refine RL.val (Wanted.free rfl) (V.assign rfl rfl) rfl ?_
         refine RL.nil ?_
         refine SG.cond_true rfl ?_
         refine SG.seq ?_
         obtain ⟨hcu, rfl⟩ : c = u.toNat ∧ k2 = k + 1 := by omega
         have hdn : d ≠ [] := fun e => absurd (show d.length = 0 by rw [e]; rfl) (by omega)
         have hp2 := hpre.sl hu (ltr_iff.2 (by omega)) (by omega) hdn
         have hlv := lval4 hpre.lt hpre.r4
         refine SG.region ?_
         refine RL.val (Wanted.free rfl) (V.fieldAddr rfl rfl fo23_1) rfl ?_
         refine RL.val (Wanted.free rfl) (V.load rfl on3 rfl pickX rfl) rfl ?_
         refine RL.val (Wanted.free rfl) (V.bin rfl rfl rfl (B.mulI (by omega) (by omega))) rfl ?_
         refine RL.val (Wanted.free rfl) (V.move rfl rfl) rfl ?_
         refine RL.val (Wanted.free rfl) (V.bin rfl rfl rfl (B.subR (by omega) (by omega))) rfl ?_
         refine RL.val (Wanted.free rfl) (V.toI rfl ⟨_, ui21⟩ ui3 rfl (by omega) (by omega)) rfl ?_
         refine RL.val (Wanted.free rfl) (V.bin rfl rfl rfl (B.addI (by omega) (by omega))) rfl ?_
         refine RL.val (Wanted.free rfl) (V.bin rfl rfl rfl (B.addI (by omega) (by omega))) rfl ?_
         rw [show (26 * ((lval r : Nat) : Int) + ((c : Int) - 97) + 1) = ((lval (r ++ [u]) : Nat) : Int) from by rw [lval_snoc]; omega]
         refine RL.val (Wanted.free rfl) (V.fieldAddr rfl rfl fo23_1) rfl ?_
         refine RL.eff (Wanted.free rfl) (E.store1 rfl rfl rfl rfl rfl sz3 pickX rfl) rfl ?_
         rintro _ _ rfl
         refine RL.nil ?_
         refine SG.region ?_
         refine RL.val (Wanted.free rfl) (V.move rfl rfl) rfl ?_
         refine RL.val (Wanted.free rfl) (V.bin rfl rfl rfl (B.addI (by omega) (by omega))) rfl ?_
         refine RL.val (Wanted.free rfl) (V.assign rfl rfl) rfl ?_
         refine RL.nil ?_
         refine SG.inBlock ?_
         refine SG.inBlock ?_
         refine SG.weaken (ih0 _ _ _ ?_ ⟨k + 1, d, r ++ [u], hp2, rfl, rfl, rfl⟩) ?_ ?_
         ·
          have := (List.getElem?_eq_some_iff.1 hu).1; omega
         ·
          rw [List.length_append, List.length_singleton]
          repeat (first | exact EnvLe.nil _ | refine EnvLe.cons rfl ?_)
         ·
          exact entX
        ·
         refine RL.val (Wanted.free rfl) (V.pick_true rfl rfl rfl) rfl ?_
         refine RL.val (Wanted.free rfl) (V.assign rfl rfl) rfl ?_
         refine RL.nil ?_
         refine SG.cond_false rfl ?_
         refine SG.seq ?_
         have hbad := hpre.bad' hu (by omega) (by omega)
         refine SG.region ?_
         refine RL.val (Wanted.free rfl) (V.buildS [] rfl bs23 (by exact trivial) rfl) rfl ?_
         refine RL.eff (Wanted.free rfl) (E.storeWhole rfl rfl rfl (by rfl) sz23 pickX (by first | (simp [Value.oneCell']; done) | (simp [setAt, Value.oneCell']; done)) (by rfl)) rfl ?_
         rintro _ _ rfl
         refine RL.val (Wanted.free rfl) (V.assign rfl rfl) rfl ?_
         refine RL.nil ?_
         refine SG.retE (Ret.r2 Tryd.func20 rfl (.agg rfl ag23 pickX rfl rfl) (.tmp rfl)) ?_ ⟨by first | (rw [parseV, if_pos hbad]; rfl) | (rw [hall, if_neg hno]; rfl) | (rw [hall, if_pos hyes]; rfl), rfl⟩
         exact entX
       ·
        refine RL.val (Wanted.free rfl) (V.pick_true rfl rfl rfl) rfl ?_
        refine RL.val (Wanted.free rfl) (V.move rfl rfl) rfl ?_
        refine RL.skip (Wanted.no rfl rfl rfl rfl rfl) rfl ?_
        refine RL.skip (Wanted.no rfl rfl rfl rfl rfl) rfl ?_
        refine RL.val (Wanted.free rfl) (V.pick_false rfl rfl rfl) rfl ?_
        refine RL.val (Wanted.free rfl) (V.assign rfl rfl) rfl ?_
        refine RL.nil ?_
        refine SG.cond_false rfl ?_
        refine SG.seq ?_
        have hbad := hpre.bad' hu (by omega) (by omega)
        refine SG.region ?_
        refine RL.val (Wanted.free rfl) (V.buildS [] rfl bs23 (by exact trivial) rfl) rfl ?_
        refine RL.eff (Wanted.free rfl) (E.storeWhole rfl rfl rfl (by rfl) sz23 pickX (by first | (simp [Value.oneCell']; done) | (simp [setAt, Value.oneCell']; done)) (by rfl)) rfl ?_
        rintro _ _ rfl
        refine RL.val (Wanted.free rfl) (V.assign rfl rfl) rfl ?_
        refine RL.nil ?_
        refine SG.retE (Ret.r2 Tryd.func20 rfl (.agg rfl ag23 pickX rfl rfl) (.tmp rfl)) ?_ ⟨by first | (rw [parseV, if_pos hbad]; rfl) | (rw [hall, if_neg hno]; rfl) | (rw [hall, if_pos hyes]; rfl), rfl⟩
        exact entX
      ·
       refine RL.val (Wanted.free rfl) (V.pick_true rfl rfl rfl) rfl ?_
       refine RL.val (Wanted.free rfl) (V.move rfl rfl) rfl ?_
       refine RL.skip (Wanted.no rfl rfl rfl rfl rfl) rfl ?_
       refine RL.skip (Wanted.no rfl rfl rfl rfl rfl) rfl ?_
       refine RL.val (Wanted.free rfl) (V.pick_false rfl rfl rfl) rfl ?_
       refine RL.val (Wanted.free rfl) (V.move rfl rfl) rfl ?_
       refine RL.skip (Wanted.no rfl rfl rfl rfl rfl) rfl ?_
       refine RL.skip (Wanted.no rfl rfl rfl rfl rfl) rfl ?_
       refine RL.val (Wanted.free rfl) (V.pick_false rfl rfl rfl) rfl ?_
       refine RL.val (Wanted.free rfl) (V.assign rfl rfl) rfl ?_
       refine RL.nil ?_
       refine SG.cond_false rfl ?_
       refine SG.seq ?_
       have hbad := hpre.bad' hu (by omega) (by omega)
       refine SG.region ?_
       refine RL.val (Wanted.free rfl) (V.buildS [] rfl bs23 (by exact trivial) rfl) rfl ?_
       refine RL.eff (Wanted.free rfl) (E.storeWhole rfl rfl rfl (by rfl) sz23 pickX (by first | (simp [Value.oneCell']; done) | (simp [setAt, Value.oneCell']; done)) (by rfl)) rfl ?_
       rintro _ _ rfl
       refine RL.val (Wanted.free rfl) (V.assign rfl rfl) rfl ?_
       refine RL.nil ?_
       refine SG.retE (Ret.r2 Tryd.func20 rfl (.agg rfl ag23 pickX rfl rfl) (.tmp rfl)) ?_ ⟨by first | (rw [parseV, if_pos hbad]; rfl) | (rw [hall, if_neg hno]; rfl) | (rw [hall, if_pos hyes]; rfl), rfl⟩
       exact entX
     ·
      refine RL.val (Wanted.free rfl) (V.move rfl rfl) rfl ?_
      refine RL.skip (Wanted.no rfl rfl rfl rfl rfl) rfl ?_
      refine RL.skip (Wanted.no rfl rfl rfl rfl rfl) rfl ?_
      refine RL.val (Wanted.free rfl) (V.pick_false rfl rfl rfl) rfl ?_
      refine RL.val (Wanted.free rfl) (V.move rfl rfl) rfl ?_
      refine RL.skip (Wanted.no rfl rfl rfl rfl rfl) rfl ?_
      refine RL.skip (Wanted.no rfl rfl rfl rfl rfl) rfl ?_
      refine RL.val (Wanted.free rfl) (V.pick_false rfl rfl rfl) rfl ?_
      refine RL.val (Wanted.free rfl) (V.move rfl rfl) rfl ?_
      refine RL.skip (Wanted.no rfl rfl rfl rfl rfl) rfl ?_
      refine RL.skip (Wanted.no rfl rfl rfl rfl rfl) rfl ?_
      refine RL.val (Wanted.free rfl) (V.pick_false rfl rfl rfl) rfl ?_
      refine RL.val (Wanted.free rfl) (V.assign rfl rfl) rfl ?_
      refine RL.nil ?_
      refine SG.cond_false rfl ?_
      refine SG.seq ?_
      have hbad := hpre.bad' hu (by omega) (by omega)
      refine SG.region ?_
      refine RL.val (Wanted.free rfl) (V.buildS [] rfl bs23 (by exact trivial) rfl) rfl ?_
      refine RL.eff (Wanted.free rfl) (E.storeWhole rfl rfl rfl (by rfl) sz23 pickX (by first | (simp [Value.oneCell']; done) | (simp [setAt, Value.oneCell']; done)) (by rfl)) rfl ?_
      rintro _ _ rfl
      refine RL.val (Wanted.free rfl) (V.assign rfl rfl) rfl ?_
      refine RL.nil ?_
      refine SG.retE (Ret.r2 Tryd.func20 rfl (.agg rfl ag23 pickX rfl rfl) (.tmp rfl)) ?_ ⟨by first | (rw [parseV, if_pos hbad]; rfl) | (rw [hall, if_neg hno]; rfl) | (rw [hall, if_pos hyes]; rfl), rfl⟩
      exact entX
   ·
    refine RL.val (Wanted.free rfl) (V.pick_true rfl rfl rfl) rfl ?_
    refine RL.val (Wanted.free rfl) (V.move rfl rfl) rfl ?_
    refine RL.skip (Wanted.no rfl rfl rfl rfl rfl) rfl ?_
    refine RL.skip (Wanted.no rfl rfl rfl rfl rfl) rfl ?_
    refine RL.val (Wanted.free rfl) (V.pick_false rfl rfl rfl) rfl ?_
    refine RL.val (Wanted.free rfl) (V.move rfl rfl) rfl ?_
    refine RL.skip (Wanted.no rfl rfl rfl rfl rfl) rfl ?_
    refine RL.skip (Wanted.no rfl rfl rfl rfl rfl) rfl ?_
    refine RL.val (Wanted.free rfl) (V.pick_false rfl rfl rfl) rfl ?_
    refine RL.val (Wanted.free rfl) (V.move rfl rfl) rfl ?_
    refine RL.skip (Wanted.no rfl rfl rfl rfl rfl) rfl ?_
    refine RL.skip (Wanted.no rfl rfl rfl rfl rfl) rfl ?_
    refine RL.skip (Wanted.no rfl rfl rfl rfl rfl) rfl ?_
    refine RL.skip (Wanted.un rfl rfl rfl) rfl ?_
    refine RL.skip (Wanted.un rfl rfl rfl) rfl ?_
    refine RL.skip (Wanted.no rfl rfl rfl rfl rfl) rfl ?_
    refine RL.val (Wanted.free rfl) (V.pick_false rfl rfl rfl) rfl ?_
    refine RL.val (Wanted.free rfl) (V.assign rfl rfl) rfl ?_
    refine RL.nil ?_
    refine SG.cond_false rfl ?_
    refine SG.seq ?_
    refine SG.region ?_
    refine RL.val (Wanted.free rfl) (V.move rfl rfl) rfl ?_
    refine RL.cmp (Wanted.free rfl) (V.bin rfl rfl rfl B.geq) rfl (fun h229 => ?_) (fun h229 => ?_)
    ·
     refine RL.val (Wanted.free rfl) (V.move rfl rfl) rfl ?_
     refine RL.val (Wanted.yes rfl rfl rfl rfl) (V.move rfl rfl) rfl ?_
     refine RL.cmp (Wanted.yes rfl rfl rfl rfl) (V.bin rfl rfl rfl B.leq) rfl (fun h232 => ?_) (fun h232 => ?_)
     ·
      refine RL.val (Wanted.free rfl) (V.pick_true rfl rfl rfl) rfl ?_
      refine RL.val (Wanted.free rfl) (V.move rfl rfl) rfl ?_
      refine RL.val (Wanted.yes rfl rfl rfl rfl) (V.move rfl rfl) rfl ?_
      refine RL.cmp (Wanted.yes rfl rfl rfl rfl) (V.bin rfl rfl rfl B.gtr) rfl (fun h235 => ?_) (fun h235 => ?_)
      ·
       refine RL.val (Wanted.free rfl) (V.pick_true rfl rfl rfl) rfl ?_
       refine RL.val (Wanted.free rfl) (V.move rfl rfl) rfl ?_
       refine RL.val (Wanted.yes rfl rfl rfl rfl) (V.move rfl rfl) rfl ?_
       refine RL.cmp (Wanted.yes rfl rfl rfl rfl) (V.bin rfl rfl rfl B.lss) rfl (fun h238 => ?_) (fun h238 => ?_)
       ·
        refine RL.val (Wanted.free rfl) (V.pick_true rfl rfl rfl) rfl ?_
        refine RL.val (Wanted.free rfl) (V.assign rfl rfl) rfl ?_
        refine RL.nil ?_
        refine SG.cond_true rfl ?_
        refine SG.seq ?_
        obtain ⟨hcu, rfl⟩ : c = u.toNat ∧ k2 = k + 1 := by omega
        have hdn : d ≠ [] := fun e => absurd (show d.length = 0 by rw [e]; rfl) (by omega)
        have hp2 := hpre.sl hu (ltr_iff.2 (by omega)) (by omega) hdn
        have hlv := lval4 hpre.lt hpre.r4
        refine SG.region ?_
        refine RL.val (Wanted.free rfl) (V.fieldAddr rfl rfl fo23_1) rfl ?_
        refine RL.val (Wanted.free rfl) (V.load rfl on3 rfl pickX rfl) rfl ?_
        refine RL.val (Wanted.free rfl) (V.bin rfl rfl rfl (B.mulI (by omega) (by omega))) rfl ?_
        refine RL.val (Wanted.free rfl) (V.move rfl rfl) rfl ?_
        refine RL.val (Wanted.free rfl) (V.bin rfl rfl rfl (B.subR (by omega) (by omega))) rfl ?_
        refine RL.val (Wanted.free rfl) (V.toI rfl ⟨_, ui21⟩ ui3 rfl (by omega) (by omega)) rfl ?_
        refine RL.val (Wanted.free rfl) (V.bin rfl rfl rfl (B.addI (by omega) (by omega))) rfl ?_
        refine RL.val (Wanted.free rfl) (V.bin rfl rfl rfl (B.addI (by omega) (by omega))) rfl ?_
        rw [show (26 * ((lval r : Nat) : Int) + ((c : Int) - 97) + 1) = ((lval (r ++ [u]) : Nat) : Int) from by rw [lval_snoc]; omega]
        refine RL.val (Wanted.free rfl) (V.fieldAddr rfl rfl fo23_1) rfl ?_
        refine RL.eff (Wanted.free rfl) (E.store1 rfl rfl rfl rfl rfl sz3 pickX rfl) rfl ?_
        rintro _ _ rfl
        refine RL.nil ?_
        refine SG.region ?_
        refine RL.val (Wanted.free rfl) (V.move rfl rfl) rfl ?_
        refine RL.val (Wanted.free rfl) (V.bin rfl rfl rfl (B.addI (by omega) (by omega))) rfl ?_
        refine RL.val (Wanted.free rfl) (V.assign rfl rfl) rfl ?_
        refine RL.nil ?_
        refine SG.inBlock ?_
        refine SG.inBlock ?_
        refine SG.weaken (ih0 _ _ _ ?_ ⟨k + 1, d, r ++ [u], hp2, rfl, rfl, rfl⟩) ?_ ?_
        ·
         have := (List.getElem?_eq_some_iff.1 hu).1; omega
        ·
         rw [List.length_append, List.length_singleton]
         repeat (first | exact EnvLe.nil _ | refine EnvLe.cons rfl ?_)
        ·
         exact entX
       ·
        refine RL.val (Wanted.free rfl) (V.pick_true rfl rfl rfl) rfl ?_
        refine RL.val (Wanted.free rfl) (V.assign rfl rfl) rfl ?_
        refine RL.nil ?_
        refine SG.cond_false rfl ?_
        refine SG.seq ?_
        have hbad := hpre.bad' hu (by omega) (by omega)
        refine SG.region ?_
        refine RL.val (Wanted.free rfl) (V.buildS [] rfl bs23 (by exact trivial) rfl) rfl ?_
        refine RL.eff (Wanted.free rfl) (E.storeWhole rfl rfl rfl (by rfl) sz23 pickX (by first | (simp [Value.oneCell']; done) | (simp [setAt, Value.oneCell']; done)) (by rfl)) rfl ?_
        rintro _ _ rfl
        refine RL.val (Wanted.free rfl) (V.assign rfl rfl) rfl ?_
        refine RL.nil ?_
        refine SG.retE (Ret.r2 Tryd.func20 rfl (.agg rfl ag23 pickX rfl rfl) (.tmp rfl)) ?_ ⟨by first | (rw [parseV, if_pos hbad]; rfl) | (rw [hall, if_neg hno]; rfl) | (rw [hall, if_pos hyes]; rfl), rfl⟩
        exact entX
      ·
       refine RL.val (Wanted.free rfl) (V.pick_true rfl rfl rfl) rfl ?_
       refine RL.val (Wanted.free rfl) (V.move rfl rfl) rfl ?_
       refine RL.skip (Wanted.no rfl rfl rfl rfl rfl) rfl ?_
       refine RL.skip (Wanted.no rfl rfl rfl rfl rfl) rfl ?_
       refine RL.val (Wanted.free rfl) (V.pick_false rfl rfl rfl) rfl ?_
       refine RL.val (Wanted.free rfl) (V.assign rfl rfl) rfl ?_
       refine RL.nil ?_
       refine SG.cond_false rfl ?_
       refine SG.seq ?_
       have hbad := hpre.bad' hu (by omega) (by omega)
       refine SG.region ?_
       refine RL.val (Wanted.free rfl) (V.buildS [] rfl bs23 (by exact trivial) rfl) rfl ?_
       refine RL.eff (Wanted.free rfl) (E.storeWhole rfl rfl rfl (by rfl) sz23 pickX (by first | (simp [Value.oneCell']; done) | (simp [setAt, Value.oneCell']; done)) (by rfl)) rfl ?_
       rintro _ _ rfl
       refine RL.val (Wanted.free rfl) (V.assign rfl rfl) rfl ?_
       refine RL.nil ?_
       refine SG.retE (Ret.r2 Tryd.func20 rfl (.agg rfl ag23 pickX rfl rfl) (.tmp rfl)) ?_ ⟨by first | (rw [parseV, if_pos hbad]; rfl) | (rw [hall, if_neg hno]; rfl) | (rw [hall, if_pos hyes]; rfl), rfl⟩
       exact entX
     ·
      refine RL.val (Wanted.free rfl) (V.pick_true rfl rfl rfl) rfl ?_
      refine RL.val (Wanted.free rfl) (V.move rfl rfl) rfl ?_
      refine RL.skip (Wanted.no rfl rfl rfl rfl rfl) rfl ?_
      refine RL.skip (Wanted.no rfl rfl rfl rfl rfl) rfl ?_
      refine RL.val (Wanted.free rfl) (V.pick_false rfl rfl rfl) rfl ?_
      refine RL.val (Wanted.free rfl) (V.move rfl rfl) rfl ?_
      refine RL.skip (Wanted.no rfl rfl rfl rfl rfl) rfl ?_
      refine RL.skip (Wanted.no rfl rfl rfl rfl rfl) rfl ?_
      refine RL.val (Wanted.free rfl) (V.pick_false rfl rfl rfl) rfl ?_
      refine RL.val (Wanted.free rfl) (V.assign rfl rfl) rfl ?_
      refine RL.nil ?_
      refine SG.cond_false rfl ?_
      refine SG.seq ?_
      have hbad := hpre.bad' hu (by omega) (by omega)
      refine SG.region ?_
      refine RL.val (Wanted.free rfl) (V.buildS [] rfl bs23 (by exact trivial) rfl) rfl ?_
      refine RL.eff (Wanted.free rfl) (E.storeWhole rfl rfl rfl (by rfl) sz23 pickX (by first | (simp [Value.oneCell']; done) | (simp [setAt, Value.oneCell']; done)) (by rfl)) rfl ?_
      rintro _ _ rfl
      refine RL.val (Wanted.free rfl) (V.assign rfl rfl) rfl ?_
      refine RL.nil ?_
      refine SG.retE (Ret.r2 Tryd.func20 rfl (.agg rfl ag23 pickX rfl rfl) (.tmp rfl)) ?_ ⟨by first | (rw [parseV, if_pos hbad]; rfl) | (rw [hall, if_neg hno]; rfl) | (rw [hall, if_pos hyes]; rfl), rfl⟩
      exact entX
    ·
     refine RL.val (Wanted.free rfl) (V.move rfl rfl) rfl ?_
     refine RL.skip (Wanted.no rfl rfl rfl rfl rfl) rfl ?_
     refine RL.skip (Wanted.no rfl rfl rfl rfl rfl) rfl ?_
     refine RL.val (Wanted.free rfl) (V.pick_false rfl rfl rfl) rfl ?_
     refine RL.val (Wanted.free rfl) (V.move rfl rfl) rfl ?_
     refine RL.skip (Wanted.no rfl rfl rfl rfl rfl) rfl ?_
     refine RL.skip (Wanted.no rfl rfl rfl rfl rfl) rfl ?_
     refine RL.val (Wanted.free rfl) (V.pick_false rfl rfl rfl) rfl ?_
     refine RL.val (Wanted.free rfl) (V.move rfl rfl) rfl ?_
     refine RL.skip (Wanted.no rfl rfl rfl rfl rfl) rfl ?_
     refine RL.skip (Wanted.no rfl rfl rfl rfl rfl) rfl ?_
     refine RL.val (Wanted.free rfl) (V.pick_false rfl rfl rfl) rfl ?_
     refine RL.val (Wanted.free rfl) (V.assign rfl rfl) rfl ?_
     refine RL.nil ?_
     refine SG.cond_false rfl ?_
     refine SG.seq ?_
     have hbad := hpre.bad' hu (by omega) (by omega)
     refine SG.region ?_
     refine RL.val (Wanted.free rfl) (V.buildS [] rfl bs23 (by exact trivial) rfl) rfl ?_
     refine RL.eff (Wanted.free rfl) (E.storeWhole rfl rfl rfl (by rfl) sz23 pickX (by first | (simp [Value.oneCell']; done) | (simp [setAt, Value.oneCell']; done)) (by rfl)) rfl ?_
     rintro _ _ rfl
     refine RL.val (Wanted.free rfl) (V.assign rfl rfl) rfl ?_
     refine RL.nil ?_
     refine SG.retE (Ret.r2 Tryd.func20 rfl (.agg rfl ag23 pickX rfl rfl) (.tmp rfl)) ?_ ⟨by first | (rw [parseV, if_pos hbad]; rfl) | (rw [hall, if_neg hno]; rfl) | (rw [hall, if_pos hyes]; rfl), rfl⟩
     exact entX
  ·
   refine RL.val (Wanted.free rfl) (V.move rfl rfl) rfl ?_
   refine RL.skip (Wanted.no rfl rfl rfl rfl rfl) rfl ?_
   refine RL.skip (Wanted.no rfl rfl rfl rfl rfl) rfl ?_
   refine RL.val (Wanted.free rfl) (V.pick_false rfl rfl rfl) rfl ?_
   refine RL.val (Wanted.free rfl) (V.move rfl rfl) rfl ?_
   refine RL.skip (Wanted.no rfl rfl rfl rfl rfl) rfl ?_
   refine RL.skip (Wanted.no rfl rfl rfl rfl rfl) rfl ?_
   refine RL.val (Wanted.free rfl) (V.pick_false rfl rfl rfl) rfl ?_
   refine RL.val (Wanted.free rfl) (V.move rfl rfl) rfl ?_
   refine RL.skip (Wanted.no rfl rfl rfl rfl rfl) rfl ?_
   refine RL.skip (Wanted.no rfl rfl rfl rfl rfl) rfl ?_
   refine RL.val (Wanted.free rfl) (V.pick_false rfl rfl rfl) rfl ?_
   refine RL.val (Wanted.free rfl) (V.move rfl rfl) rfl ?_
   refine RL.skip (Wanted.no rfl rfl rfl rfl rfl) rfl ?_
   refine RL.skip (Wanted.no rfl rfl rfl rfl rfl) rfl ?_
   refine RL.skip (Wanted.no rfl rfl rfl rfl rfl) rfl ?_
   refine RL.skip (Wanted.un rfl rfl rfl) rfl ?_
   refine RL.skip (Wanted.un rfl rfl rfl) rfl ?_
   refine RL.skip (Wanted.no rfl rfl rfl rfl rfl) rfl ?_
   refine RL.val (Wanted.free rfl) (V.pick_false rfl rfl rfl) rfl ?_
   refine RL.val (Wanted.free rfl) (V.assign rfl rfl) rfl ?_
   refine RL.nil ?_
   refine SG.cond_false rfl ?_
   refine SG.seq ?_
   refine SG.region ?_
   refine RL.val (Wanted.free rfl) (V.move rfl rfl) rfl ?_
   refine RL.cmp (Wanted.free rfl) (V.bin rfl rfl rfl B.geq) rfl (fun h281 => ?_) (fun h281 => ?_)
   ·
    refine RL.val (Wanted.free rfl) (V.move rfl rfl) rfl ?_
    refine RL.val (Wanted.yes rfl rfl rfl rfl) (V.move rfl rfl) rfl ?_
    refine RL.cmp (Wanted.yes rfl rfl rfl rfl) (V.bin rfl rfl rfl B.leq) rfl (fun h284 => ?_) (fun h284 => ?_)
    ·
     refine RL.val (Wanted.free rfl) (V.pick_true rfl rfl rfl) rfl ?_
     refine RL.val (Wanted.free rfl) (V.move rfl rfl) rfl ?_
     refine RL.val (Wanted.yes rfl rfl rfl rfl) (V.move rfl rfl) rfl ?_
     refine RL.cmp (Wanted.yes rfl rfl rfl rfl) (V.bin rfl rfl rfl B.gtr) rfl (fun h287 => ?_) (fun h287 => ?_)
     ·
      refine RL.val (Wanted.free rfl) (V.pick_true rfl rfl rfl) rfl ?_
      refine RL.val (Wanted.free rfl) (V.move rfl rfl) rfl ?_
      refine RL.val (Wanted.yes rfl rfl rfl rfl) (V.move rfl rfl) rfl ?_
      refine RL.cmp (Wanted.yes rfl rfl rfl rfl) (V.bin rfl rfl rfl B.lss) rfl (fun h290 => ?_) (fun h290 => ?_)
      ·
       refine RL.val (Wanted.free rfl) (V.pick_true rfl rfl rfl) rfl ?_
       refine RL.val (Wanted.free rfl) (V.assign rfl rfl) rfl ?_
       refine RL.nil ?_
       refine SG.cond_true rfl ?_
       refine SG.seq ?_
       obtain ⟨hcu, rfl⟩ : c = u.toNat ∧ k2 = k + 1 := by omega
       have hdn : d ≠ [] := fun e => absurd (show d.length = 0 by rw [e]; rfl) (by omega)
       have hp2 := hpre.sl hu (ltr_iff.2 (by omega)) (by omega) hdn
       have hlv := lval4 hpre.lt hpre.r4
       refine SG.region ?_
       refine RL.val (Wanted.free rfl) (V.fieldAddr rfl rfl fo23_1) rfl ?_
       refine RL.val (Wanted.free rfl) (V.load rfl on3 rfl pickX rfl) rfl ?_
       refine RL.val (Wanted.free rfl) (V.bin rfl rfl rfl (B.mulI (by omega) (by omega))) rfl ?_
       refine RL.val (Wanted.free rfl) (V.move rfl rfl) rfl ?_
       refine RL.val (Wanted.free rfl) (V.bin rfl rfl rfl (B.subR (by omega) (by omega))) rfl ?_
       refine RL.val (Wanted.free rfl) (V.toI rfl ⟨_, ui21⟩ ui3 rfl (by omega) (by omega)) rfl ?_
       refine RL.val (Wanted.free rfl) (V.bin rfl rfl rfl (B.addI (by omega) (by omega))) rfl ?_
       refine RL.val (Wanted.free rfl) (V.bin rfl rfl rfl (B.addI (by omega) (by omega))) rfl ?_
       rw [show (26 * ((lval r : Nat) : Int) + ((c : Int) - 97) + 1) = ((lval (r ++ [u]) : Nat) : Int) from by rw [lval_snoc]; omega]
       refine RL.val (Wanted.free rfl) (V.fieldAddr rfl rfl fo23_1) rfl ?_
       refine RL.eff (Wanted.free rfl) (E.store1 rfl rfl rfl rfl rfl sz3 pickX rfl) rfl ?_
       rintro _ _ rfl
       refine RL.nil ?_
       refine SG.region ?_
       refine RL.val (Wanted.free rfl) (V.move rfl rfl) rfl ?_
       refine RL.val (Wanted.free rfl) (V.bin rfl rfl rfl (B.addI (by omega) (by omega))) rfl ?_
       refine RL.val (Wanted.free rfl) (V.assign rfl rfl) rfl ?_
       refine RL.nil ?_
       refine SG.inBlock ?_
       refine SG.inBlock ?_
       refine SG.weaken (ih0 _ _ _ ?_ ⟨k + 1, d, r ++ [u], hp2, rfl, rfl, rfl⟩) ?_ ?_
       ·
        have := (List.getElem?_eq_some_iff.1 hu).1; omega
       ·
        rw [List.length_append, List.length_singleton]
        repeat (first | exact EnvLe.nil _ | refine EnvLe.cons rfl ?_)
       ·
        exact entX
      ·
       refine RL.val (Wanted.free rfl) (V.pick_true rfl rfl rfl) rfl ?_
       refine RL.val (Wanted.free rfl) (V.assign rfl rfl) rfl ?_
       refine RL.nil ?_
       refine SG.cond_false rfl ?_
       refine SG.seq ?_
       have hbad := hpre.bad' hu (by omega) (by omega)
       refine SG.region ?_
       refine RL.val (Wanted.free rfl) (V.buildS [] rfl bs23 (by exact trivial) rfl) rfl ?_
       refine RL.eff (Wanted.free rfl) (E.storeWhole rfl rfl rfl (by rfl) sz23 pickX (by first | (simp [Value.oneCell']; done) | (simp [setAt, Value.oneCell']; done)) (by rfl)) rfl ?_
       rintro _ _ rfl
       refine RL.val (Wanted.free rfl) (V.assign rfl rfl) rfl ?_
       refine RL.nil ?_
       refine SG.retE (Ret.r2 Tryd.func20 rfl (.agg rfl ag23 pickX rfl rfl) (.tmp rfl)) ?_ ⟨by first | (rw [parseV, if_pos hbad]; rfl) | (rw [hall, if_neg hno]; rfl) | (rw [hall, if_pos hyes]; rfl), rfl⟩
       exact entX
     ·
      refine RL.val (Wanted.free rfl) (V.pick_true rfl rfl rfl) rfl ?_
      refine RL.val (Wanted.free rfl) (V.move rfl rfl) rfl ?_
      refine RL.skip (Wanted.no rfl rfl rfl rfl rfl) rfl ?_
      refine RL.skip (Wanted.no rfl rfl rfl rfl rfl) rfl ?_
      refine RL.val (Wanted.free rfl) (V.pick_false rfl rfl rfl) rfl ?_
      refine RL.val (Wanted.free rfl) (V.assign rfl rfl) rfl ?_
      refine RL.nil ?_
      refine SG.cond_false rfl ?_
      refine SG.seq ?_
      have hbad := hpre.bad' hu (by omega) (by omega)
      refine SG.region ?_
      refine RL.val (Wanted.free rfl) (V.buildS [] rfl bs23 (by exact trivial) rfl) rfl ?_
      refine RL.eff (Wanted.free rfl) (E.storeWhole rfl rfl rfl (by rfl) sz23 pickX (by first | (simp [Value.oneCell']; done) | (simp [setAt, Value.oneCell']; done)) (by rfl)) rfl ?_
      rintro _ _ rfl
      refine RL.val (Wanted.free rfl) (V.assign rfl rfl) rfl ?_
      refine RL.nil ?_
      refine SG.retE (Ret.r2 Tryd.func20 rfl (.agg rfl ag23 pickX rfl rfl) (.tmp rfl)) ?_ ⟨by first | (rw [parseV, if_pos hbad]; rfl) | (rw [hall, if_neg hno]; rfl) | (rw [hall, if_pos hyes]; rfl), rfl⟩
      exact entX
    ·
     refine RL.val (Wanted.free rfl) (V.pick_true rfl rfl rfl) rfl ?_
     refine RL.val (Wanted.free rfl) (V.move rfl rfl) rfl ?_
     refine RL.skip (Wanted.no rfl rfl rfl rfl rfl) rfl ?_
     refine RL.skip (Wanted.no rfl rfl rfl rfl rfl) rfl ?_
     refine RL.val (Wanted.free rfl) (V.pick_false rfl rfl rfl) rfl ?_
     refine RL.val (Wanted.free rfl) (V.move rfl rfl) rfl ?_
     refine RL.skip (Wanted.no rfl rfl rfl rfl rfl) rfl ?_
     refine RL.skip (Wanted.no rfl rfl rfl rfl rfl) rfl ?_
     refine RL.val (Wanted.free rfl) (V.pick_false rfl rfl rfl) rfl ?_
     refine RL.val (Wanted.free rfl) (V.assign rfl rfl) rfl ?_
     refine RL.nil ?_
     refine SG.cond_false rfl ?_
     refine SG.seq ?_
     have hbad := hpre.bad' hu (by omega) (by omega)
     refine SG.region ?_
     refine RL.val (Wanted.free rfl) (V.buildS [] rfl bs23 (by exact trivial) rfl) rfl ?_
     refine RL.eff (Wanted.free rfl) (E.storeWhole rfl rfl rfl (by rfl) sz23 pickX (by first | (simp [Value.oneCell']; done) | (simp [setAt, Value.oneCell']; done)) (by rfl)) rfl ?_
     rintro _ _ rfl
     refine RL.val (Wanted.free rfl) (V.assign rfl rfl) rfl ?_
     refine RL.nil ?_
     refine SG.retE (Ret.r2 Tryd.func20 rfl (.agg rfl ag23 pickX rfl rfl) (.tmp rfl)) ?_ ⟨by first | (rw [parseV, if_pos hbad]; rfl) | (rw [hall, if_neg hno]; rfl) | (rw [hall, if_pos hyes]; rfl), rfl⟩
     exact entX
   ·
    refine RL.val (Wanted.free rfl) (V.move rfl rfl) rfl ?_
    refine RL.skip (Wanted.no rfl rfl rfl rfl rfl) rfl ?_
    refine RL.skip (Wanted.no rfl rfl rfl rfl rfl) rfl ?_
    refine RL.val (Wanted.free rfl) (V.pick_false rfl rfl rfl) rfl ?_
    refine RL.val (Wanted.free rfl) (V.move rfl rfl) rfl ?_
    refine RL.skip (Wanted.no rfl rfl rfl rfl rfl) rfl ?_
    refine RL.skip (Wanted.no rfl rfl rfl rfl rfl) rfl ?_
    refine RL.val (Wanted.free rfl) (V.pick_false rfl rfl rfl) rfl ?_
    refine RL.val (Wanted.free rfl) (V.move rfl rfl) rfl ?_
    refine RL.skip (Wanted.no rfl rfl rfl rfl rfl) rfl ?_
    refine RL.skip (Wanted.no rfl rfl rfl rfl rfl) rfl ?_
    refine RL.val (Wanted.free rfl) (V.pick_false rfl rfl rfl) rfl ?_
    refine RL.val (Wanted.free rfl) (V.assign rfl rfl) rfl ?_
    refine RL.nil ?_
    refine SG.cond_false rfl ?_
    refine SG.seq ?_
    have hbad := hpre.bad' hu (by omega) (by omega)
    refine SG.region ?_
    refine RL.val (Wanted.free rfl) (V.buildS [] rfl bs23 (by exact trivial) rfl) rfl ?_
    refine RL.eff (Wanted.free rfl) (E.storeWhole rfl rfl rfl (by rfl) sz23 pickX (by first | (simp [Value.oneCell']; done) | (simp [setAt, Value.oneCell']; done)) (by rfl)) rfl ?_
    rintro _ _ rfl
    refine RL.val (Wanted.free rfl) (V.assign rfl rfl) rfl ?_
    refine RL.nil ?_
    refine SG.retE (Ret.r2 Tryd.func20 rfl (.agg rfl ag23 pickX rfl rfl) (.tmp rfl)) ?_ ⟨by first | (rw [parseV, if_pos hbad]; rfl) | (rw [hall, if_neg hno]; rfl) | (rw [hall, if_pos hyes]; rfl), rfl⟩
    exact entX

end Go.Proofs.YteopejoppdgncaaDoor
