/- Written disks; the statement on fuses. -/
import Derived.Test.YteghgfgkkpfcaaaLaws1
import Derived.Test.YteghgfgkkpfcaaaDPlain4
namespace Go.Proofs.Yteghgfgkkpfcaaa
open Go.Wk Go.Dsk

set_option maxRecDepth 100000 in
theorem written_ok {κ : World} {L : List Assn} {a : Option Addr} {n0 c : Nat} {l : List OpD} (n : Int) (h1 : -9223372036854775808 ≤ n) (h2 : n ≤ 9223372036854775807) (hm : Sl ROp a n0 c l ∈ L) :
    Ctr Try.prog 35 #[vI n, .slice a n0 c] κ L (fun v M => ∃ b D, v = ptr b 0 ∧ D.ok 41 ∧ D.calm ∧ D.S.length ≤ 16 ∧ M = Dsk b D :: L) := by
  refine Ctr.enter (vs := [vI n, .slice a n0 c]) (m := 55) Try.func35 rfl rfl rfl ?_
  obtain ⟨q, hq, hq2⟩ := aroundV_nat (n := n) (most := 16) (by omega)
  refine SG.sl hm fun hl hlc hc63 => ?_
  subst hl
  have hfr := fresh_ok (n := 1 + q) (by omega) (by omega)
  refine SG.seq ?_
  refine SG.region ?_
  refine RL.val (Wanted.free rfl) (V.assign rfl rfl) rfl ?_
  refine RL.nil ?_
  refine SG.seq ?_
  refine SG.region ?_
  refine RL.val (Wanted.free rfl) (V.move rfl rfl) rfl ?_
  refine RL.eff (Wanted.free rfl) (E.call rfl go12 rfl (made_ok h1 h2 hq hq2)) rfl ?_
  rintro _ _ ⟨b8, rfl, rfl⟩
  refine RL.val (Wanted.free rfl) (V.assign rfl rfl) rfl ?_
  refine RL.nil ?_
  refine SG.seq ?_
  refine SG.seq ?_
  refine SG.region ?_
  refine RL.val (Wanted.free rfl) (V.assign rfl rfl) rfl ?_
  refine RL.nil ?_
  refine SG.block ?_
  refine SG.weaken (SG.loop2 (fun m al M => ∃ (i : Nat) (D : Dk), i ≤ l.length ∧ i ≤ 40 ∧ m = 40 - i ∧ D.ok (i + 1) ∧ D.calm ∧ D.S.length ≤ 16 ∧ al = [(0, vI n), (1, .slice a l.length c), (5, ptr b8 0), (6, vI i)] ∧ M = Dsk b8 D :: L) (m0 := _) ⟨0, _, by omega, by omega, rfl, hfr, fresh_calm _, by rw [fresh_len]; omega, rfl, rfl⟩ ?_) ?_ ?_
  rotate_left
  · repeat (first | exact EnvLe.nil _ | refine EnvLe.cons rfl ?_)
  · repeat (first | exact Ent.refl _ | (apply Ent.cons; (· repeat (first | exact Pick.here | (refine Pick.sl ?_; (· repeat (first | exact List.Mem.head _ | assumption | apply List.Mem.tail))) | apply Pick.there))) | (refine Ent.trans (Ent.drop _ _) ?_))
  rintro _ _ _ ⟨i, D, hi, hi40, rfl, hD, hC, hl16, rfl, rfl⟩ ih0
  have hlen := hD.len
  refine SG.seq ?_
  refine SG.seq ?_
  refine SG.region ?_
  refine RL.val (Wanted.free rfl) (V.move rfl rfl) rfl ?_
  refine RL.val (Wanted.free rfl) (V.move rfl rfl) rfl ?_
  refine RL.val (Wanted.free rfl) (V.len rfl rfl el22.under rfl) rfl ?_
  refine RL.cmp (Wanted.free rfl) (V.bin rfl rfl rfl B.lss) rfl (fun h9 => ?_) (fun h9 => ?_)
  · skip
    refine RL.val (Wanted.free rfl) (V.move rfl rfl) rfl ?_
    refine RL.val (Wanted.yes rfl rfl rfl rfl) (V.move rfl rfl) rfl ?_
    refine RL.cmp (Wanted.yes rfl rfl rfl rfl) (V.bin rfl rfl rfl B.lss) rfl (fun h12 => ?_) (fun h12 => ?_)
    · skip
      refine RL.val (Wanted.free rfl) (V.pick_true rfl rfl rfl) rfl ?_
      refine RL.val (Wanted.free rfl) (V.move rfl rfl) rfl ?_
      refine RL.val (Wanted.yes rfl rfl rfl rfl) (V.move rfl rfl) rfl ?_
      refine RL.cmpT (Wanted.yes rfl rfl rfl rfl) (V.neqPtrNil rfl up23 rfl rfl) rfl (by simp) ?_
      refine RL.val (Wanted.free rfl) (V.pick_true rfl rfl rfl) rfl ?_
      refine RL.nil ?_
      refine SG.cond_true rfl ?_
      refine SG.skip ?_
      refine SG.seq ?_
      refine SG.block ?_
      refine SG.seq ?_
      refine SG.elemOp (a := a) (by repeat (first | exact List.Mem.head _ | assumption | apply List.Mem.tail)) (show l[i]? = some l[i] from List.getElem?_eq_getElem (by omega)) fun ab mb cb al0 ml cl hok => ?_
      obtain ⟨ho1, ho2, ho3⟩ := hok
      unfold inInt at ho1 ho2 ho3
      refine SG.region ?_
      refine RL.val (Wanted.free rfl) (V.move rfl rfl) rfl ?_
      refine RL.val (Wanted.free rfl) (V.move rfl rfl) rfl ?_
      refine RL.val (Wanted.free rfl) (V.indexSl (j := i) rfl el22.slice rfl rfl (by repeat (first | exact List.Mem.head _ | assumption | apply List.Mem.tail)) (by first | rfl | omega) (by omega)) rfl ?_
      refine RL.val (Wanted.free rfl) (V.fieldAt rfl rfl fo35_0 (by repeat (first | exact List.Mem.head _ | assumption | apply List.Mem.tail))) rfl ?_
      refine RL.val (Wanted.free rfl) (V.loadAtF rfl on3 rfl (by repeat (first | exact List.Mem.head _ | assumption | apply List.Mem.tail)) rfl) rfl ?_
      refine RL.eff (Wanted.free rfl) (E.call rfl go14 rfl (around_ok _ _ (by omega) (by omega) (by omega))) rfl ?_
      rintro _ _ ⟨rfl, rfl⟩
      refine RL.cmp (Wanted.free rfl) (V.bin rfl rfl rfl B.eql) rfl (fun h21 => ?_) (fun h21 => ?_)
      · skip
        refine RL.nil ?_
        refine SG.cond_true rfl ?_
        refine SG.region ?_
        refine RL.val (Wanted.free rfl) (V.move rfl rfl) rfl ?_
        refine RL.eff (Wanted.free rfl) (E.call rfl go30 rfl (dFlush_ok hD (by repeat (first | exact Pick.here | assumption | apply Pick.there)) (by omega))) rfl ?_
        rintro _ _ ⟨rfl, rfl⟩
        refine RL.nil ?_
        refine SG.inBlock ?_
        refine SG.region ?_
        refine RL.val (Wanted.free rfl) (V.move rfl rfl) rfl ?_
        refine RL.val (Wanted.free rfl) (V.bin rfl rfl rfl (B.addI (by omega) (by omega))) rfl ?_
        refine RL.val (Wanted.free rfl) (V.assign rfl rfl) rfl ?_
        refine RL.nil ?_
        refine SG.weaken (ih0 _ _ _ ?_ ⟨i + 1, D.flushed, by omega, by omega, rfl, hD.flushed.mono (by omega), hC.flushed, by rw [flushed_len]; omega, rfl, rfl⟩) ?_ ?_
        · omega
        · repeat (first | exact EnvLe.nil _ | refine EnvLe.cons rfl ?_)
        · rw [← hC.flush]
          repeat (first | exact Ent.refl _ | (apply Ent.cons; (· repeat (first | exact Pick.here | (refine Pick.sl ?_; (· repeat (first | exact List.Mem.head _ | assumption | apply List.Mem.tail))) | apply Pick.there))) | (refine Ent.trans (Ent.drop _ _) ?_))
      · skip
        refine RL.nil ?_
        refine SG.cond_false rfl ?_
        obtain ⟨kk, hkk, hkk2⟩ := aroundV_nat (n := l[i].k) (most := (D.S.length : Int)) (by omega)
        refine SG.drawN 22 22 (Sl R8 ab mb cb l[i].b :: Sl RTorn al0 ml cl l[i].l :: At a (i * 5) [vI l[i].kind, vI l[i].k, vI l[i].n, .slice ab mb cb, .slice al0 ml cl] :: L) wide rfl rfl (by repeat (first | exact Ent.refl _ | (apply Ent.cons; (· repeat (first | exact Pick.here | (refine Pick.sl ?_; (· repeat (first | exact List.Mem.head _ | assumption | apply List.Mem.tail))) | apply Pick.there))) | (refine Ent.trans (Ent.drop _ _) ?_))) ?_
        refine RH.val 0 rfl (by kernel_rfl) (by kernel_rfl) (by kernel_rfl) (by kernel_rfl) (Wanted.free rfl) (V.move rfl rfl) rfl ?_
        refine RH.val 1 rfl (by kernel_rfl) (by kernel_rfl) (by kernel_rfl) (by kernel_rfl) (Wanted.free rfl) (V.move rfl rfl) rfl ?_
        refine RH.val 2 rfl (by kernel_rfl) (by kernel_rfl) (by kernel_rfl) (by kernel_rfl) (Wanted.free rfl) (V.move rfl rfl) rfl ?_
        refine RH.val 3 rfl (by kernel_rfl) (by kernel_rfl) (by kernel_rfl) (by kernel_rfl) (Wanted.free rfl) (V.indexSl (j := i) rfl el22.slice rfl rfl (by repeat (first | exact List.Mem.head _ | assumption | apply List.Mem.tail)) (by first | rfl | omega) (by omega)) rfl ?_
        refine RH.val 4 rfl (by kernel_rfl) (by kernel_rfl) (by kernel_rfl) (by kernel_rfl) (Wanted.free rfl) (V.fieldAt rfl rfl fo35_1 (by repeat (first | exact List.Mem.head _ | assumption | apply List.Mem.tail))) rfl ?_
        refine RH.val 5 rfl (by kernel_rfl) (by kernel_rfl) (by kernel_rfl) (by kernel_rfl) (Wanted.free rfl) (V.loadAtF rfl on3 rfl (by repeat (first | exact List.Mem.head _ | assumption | apply List.Mem.tail)) rfl) rfl ?_
        refine RH.val 6 rfl (by kernel_rfl) (by kernel_rfl) (by kernel_rfl) (by kernel_rfl) (Wanted.free rfl) (V.move rfl rfl) rfl ?_
        refine RH.val 9 rfl (by kernel_rfl) (by kernel_rfl) (by kernel_rfl) (by kernel_rfl) (Wanted.free rfl) (V.move rfl rfl) rfl ?_
        refine RH.val 10 rfl (by kernel_rfl) (by kernel_rfl) (by kernel_rfl) (by kernel_rfl) (Wanted.free rfl) (V.move rfl rfl) rfl ?_
        refine RH.val 11 rfl (by kernel_rfl) (by kernel_rfl) (by kernel_rfl) (by kernel_rfl) (Wanted.free rfl) (V.indexSl (j := i) rfl el22.slice rfl rfl (by repeat (first | exact List.Mem.head _ | assumption | apply List.Mem.tail)) (by first | rfl | omega) (by omega)) rfl ?_
        refine RH.val 12 rfl (by kernel_rfl) (by kernel_rfl) (by kernel_rfl) (by kernel_rfl) (Wanted.free rfl) (V.fieldAt rfl rfl fo35_3 (by repeat (first | exact List.Mem.head _ | assumption | apply List.Mem.tail))) rfl ?_
        refine RH.val 13 rfl (by kernel_rfl) (by kernel_rfl) (by kernel_rfl) (by kernel_rfl) (Wanted.free rfl) (V.loadAtF rfl on32 rfl (by repeat (first | exact List.Mem.head _ | assumption | apply List.Mem.tail)) rfl) rfl ?_
        refine RH.val 15 rfl (by kernel_rfl) (by kernel_rfl) (by kernel_rfl) (by kernel_rfl) (Wanted.free rfl) (V.move rfl rfl) rfl ?_
        refine RH.val 16 rfl (by kernel_rfl) (by kernel_rfl) (by kernel_rfl) (by kernel_rfl) (Wanted.free rfl) (V.move rfl rfl) rfl ?_
        refine RH.val 17 rfl (by kernel_rfl) (by kernel_rfl) (by kernel_rfl) (by kernel_rfl) (Wanted.free rfl) (V.indexSl (j := i) rfl el22.slice rfl rfl (by repeat (first | exact List.Mem.head _ | assumption | apply List.Mem.tail)) (by first | rfl | omega) (by omega)) rfl ?_
        refine RH.val 18 rfl (by kernel_rfl) (by kernel_rfl) (by kernel_rfl) (by kernel_rfl) (Wanted.free rfl) (V.fieldAt rfl rfl fo35_2 (by repeat (first | exact List.Mem.head _ | assumption | apply List.Mem.tail))) rfl ?_
        refine RH.val 19 rfl (by kernel_rfl) (by kernel_rfl) (by kernel_rfl) (by kernel_rfl) (Wanted.free rfl) (V.loadAtF rfl on3 rfl (by repeat (first | exact List.Mem.head _ | assumption | apply List.Mem.tail)) rfl) rfl ?_
        refine RH.one (i := 7) (by kernel_rfl) ?_
        refine RHone.eff rfl (Wanted.free rfl) (E.call rfl go20 rfl (dLen_ok hD (by repeat (first | exact Pick.here | assumption | apply Pick.there)))) rfl ?_
        rintro _ _ ⟨rfl, rfl⟩
        refine ⟨.inr (by repeat (first | exact Ent.refl _ | (apply Ent.cons; (· repeat (first | exact Pick.here | (refine Pick.sl ?_; (· repeat (first | exact List.Mem.head _ | assumption | apply List.Mem.tail))) | apply Pick.there))) | (refine Ent.trans (Ent.drop _ _) ?_))), ?_⟩
        refine RH.one (i := 8) (by kernel_rfl) ?_
        refine RHone.eff rfl (Wanted.free rfl) (E.call rfl go14 rfl (around_ok _ _ (by omega) (by omega) (by omega))) rfl ?_
        rintro _ _ ⟨rfl, rfl⟩
        refine ⟨.inr (by repeat (first | exact Ent.refl _ | (apply Ent.cons; (· repeat (first | exact Pick.here | (refine Pick.sl ?_; (· repeat (first | exact List.Mem.head _ | assumption | apply List.Mem.tail))) | apply Pick.there))) | (refine Ent.trans (Ent.drop _ _) ?_))), ?_⟩
        rw [hkk]
        refine RH.one (i := 14) (by kernel_rfl) ?_
        refine RHone.eff rfl (Wanted.free rfl) (E.call rfl go33 rfl (few_ok (a := ab) (by repeat (first | exact List.Mem.head _ | assumption | apply List.Mem.tail)) (by decide) (by decide))) rfl ?_
        rintro _ _ ⟨a46, k46, c46, rfl, rfl⟩
        refine ⟨.inr (by repeat (first | exact Ent.refl _ | (apply Ent.cons; (· repeat (first | exact Pick.here | (refine Pick.sl ?_; (· repeat (first | exact List.Mem.head _ | assumption | apply List.Mem.tail))) | apply Pick.there))) | (refine Ent.trans (Ent.drop _ _) ?_))), ?_⟩
        refine RH.publish (T := R8) (a := a46) Pick.here ?_
        refine RH.one (i := 20) (by kernel_rfl) ?_
        refine RHone.eff rfl (Wanted.free rfl) (E.call rfl go32 rfl (fill_ok (a := a46) _ (by repeat (first | exact List.Mem.head _ | assumption | apply List.Mem.tail)) (by omega) (by omega))) rfl ?_
        rintro _ _ ⟨a52, c52, s52, hs52, rfl, rfl⟩
        refine ⟨.inr (by repeat (first | exact Ent.refl _ | (apply Ent.cons; (· repeat (first | exact Pick.here | (refine Pick.sl ?_; (· repeat (first | exact List.Mem.head _ | assumption | apply List.Mem.tail))) | apply Pick.there))) | (refine Ent.trans (Ent.drop _ _) ?_))), ?_⟩
        refine RH.publish (T := R8) (a := a52) Pick.here ?_
        refine RH.one (i := 21) (by kernel_rfl) ?_
        refine RHone.eff rfl (Wanted.free rfl) (E.call rfl go31 rfl (dWrite_ok hD (by repeat (first | exact Pick.here | assumption | apply Pick.there)) _ (s := s52) (by repeat (first | exact List.Mem.head _ | assumption | apply List.Mem.tail)) (by omega))) rfl ?_
        rintro _ _ ⟨rfl, rfl⟩
        refine ⟨.inr (by repeat (first | exact Ent.refl _ | (apply Ent.cons; (· repeat (first | exact Pick.here | (refine Pick.sl ?_; (· repeat (first | exact List.Mem.head _ | assumption | apply List.Mem.tail))) | apply Pick.there))) | (refine Ent.trans (Ent.drop _ _) ?_))), ?_⟩
        refine RH.done (by kernel_rfl) ?_
        refine SG.inBlock ?_
        refine SG.region ?_
        refine RL.val (Wanted.free rfl) (V.move rfl rfl) rfl ?_
        refine RL.val (Wanted.free rfl) (V.bin rfl rfl rfl (B.addI (by omega) (by omega))) rfl ?_
        refine RL.val (Wanted.free rfl) (V.assign rfl rfl) rfl ?_
        refine RL.nil ?_
        refine SG.weaken (ih0 _ _ _ ?_ ⟨i + 1, D.add kk s52, by omega, by omega, rfl, hD.add (by omega) (by omega) hs52, hC.add _ _, by rw [Dk.add_len]; omega, rfl, rfl⟩) ?_ ?_
        · omega
        · repeat (first | exact EnvLe.nil _ | refine EnvLe.cons rfl ?_)
        · rw [← hC.write (by omega) (by omega) hs52]
          repeat (first | exact Ent.refl _ | (apply Ent.cons; (· repeat (first | exact Pick.here | (refine Pick.sl ?_; (· repeat (first | exact List.Mem.head _ | assumption | apply List.Mem.tail))) | apply Pick.there))) | (refine Ent.trans (Ent.drop _ _) ?_))
    · skip
      refine RL.val (Wanted.free rfl) (V.pick_true rfl rfl rfl) rfl ?_
      refine RL.val (Wanted.free rfl) (V.move rfl rfl) rfl ?_
      refine RL.skip (Wanted.no rfl rfl rfl rfl rfl) rfl ?_
      refine RL.skip (Wanted.no rfl rfl rfl rfl rfl) rfl ?_
      refine RL.val (Wanted.free rfl) (V.pick_false rfl rfl rfl) rfl ?_
      refine RL.nil ?_
      refine SG.cond_false rfl ?_
      refine SG.exit rfl ?_
      refine SG.seq ?_
      refine SG.region ?_
      refine RL.val (Wanted.free rfl) (V.move rfl rfl) rfl ?_
      refine RL.val (Wanted.free rfl) (V.assign rfl rfl) rfl ?_
      refine RL.nil ?_
      refine SG.retE (Ret.r1 Try.func35 rfl (.tmp rfl)) ?_ ⟨_, D, rfl, hD.mono (by omega), hC, hl16, rfl⟩
      repeat (first | exact Ent.refl _ | (apply Ent.cons; (· repeat (first | exact Pick.here | (refine Pick.sl ?_; (· repeat (first | exact List.Mem.head _ | assumption | apply List.Mem.tail))) | apply Pick.there))) | (refine Ent.trans (Ent.drop _ _) ?_))
  · skip
    refine RL.val (Wanted.free rfl) (V.move rfl rfl) rfl ?_
    refine RL.skip (Wanted.no rfl rfl rfl rfl rfl) rfl ?_
    refine RL.skip (Wanted.no rfl rfl rfl rfl rfl) rfl ?_
    refine RL.val (Wanted.free rfl) (V.pick_false rfl rfl rfl) rfl ?_
    refine RL.val (Wanted.free rfl) (V.move rfl rfl) rfl ?_
    refine RL.skip (Wanted.no rfl rfl rfl rfl rfl) rfl ?_
    refine RL.skip (Wanted.no rfl rfl rfl rfl rfl) rfl ?_
    refine RL.val (Wanted.free rfl) (V.pick_false rfl rfl rfl) rfl ?_
    refine RL.nil ?_
    refine SG.cond_false rfl ?_
    refine SG.exit rfl ?_
    refine SG.seq ?_
    refine SG.region ?_
    refine RL.val (Wanted.free rfl) (V.move rfl rfl) rfl ?_
    refine RL.val (Wanted.free rfl) (V.assign rfl rfl) rfl ?_
    refine RL.nil ?_
    refine SG.retE (Ret.r1 Try.func35 rfl (.tmp rfl)) ?_ ⟨_, D, rfl, hD.mono (by omega), hC, hl16, rfl⟩
    repeat (first | exact Ent.refl _ | (apply Ent.cons; (· repeat (first | exact Pick.here | (refine Pick.sl ?_; (· repeat (first | exact List.Mem.head _ | assumption | apply List.Mem.tail))) | apply Pick.there))) | (refine Ent.trans (Ent.drop _ _) ?_))

set_option maxRecDepth 100000 in
theorem fuses_law {κ : World} {L : List Assn} {a : Option Addr} {n0 c : Nat} {l : List OpD} (n : Int) (h1 : -9223372036854775808 ≤ n) (h2 : n ≤ 9223372036854775807) (fu : Int) (h3 : -9223372036854775808 ≤ fu) (h4 : fu ≤ 9223372036854775807) (hm : Sl ROp a n0 c l ∈ L) :
    Ctr Try.prog 6 #[vI n, vI fu, .slice a n0 c] κ L (fun v M => v = vB true ∧ M = L) := by
  refine Ctr.enter (vs := [vI n, vI fu, .slice a n0 c]) (m := 109) Try.func6 rfl rfl rfl ?_
  obtain ⟨q, hq, hq2⟩ := aroundV_nat (n := n) (most := 16) (by omega)
  obtain ⟨mst, hms, hms2⟩ := aroundV_nat (n := fu) (most := 41) (by omega)
  refine SG.sl hm fun hl hlc hc63 => ?_
  subst hl
  have hfr := fresh_ok (n := 1 + q) (by omega) (by omega)
  refine SG.seq ?_
  refine SG.region ?_
  refine RL.val (Wanted.free rfl) (V.assign rfl rfl) rfl ?_
  refine RL.nil ?_
  refine SG.seq ?_
  refine SG.region ?_
  refine RL.val (Wanted.free rfl) (V.move rfl rfl) rfl ?_
  refine RL.eff (Wanted.free rfl) (E.call rfl go12 rfl (made_ok h1 h2 hq hq2)) rfl ?_
  rintro _ _ ⟨b14, rfl, rfl⟩
  refine RL.val (Wanted.free rfl) (V.assign rfl rfl) rfl ?_
  refine RL.nil ?_
  refine SG.seq ?_
  refine SG.seq ?_
  refine SG.region ?_
  refine RL.val (Wanted.free rfl) (V.move rfl rfl) rfl ?_
  refine RL.cmpF (Wanted.free rfl) (V.eqlPtrNil rfl up23 rfl rfl) rfl (by simp) ?_
  refine RL.nil ?_
  refine SG.cond_false rfl ?_
  refine SG.skip ?_
  refine SG.seq ?_
  refine SG.region ?_
  refine RL.val (Wanted.free rfl) (V.move rfl rfl) rfl ?_
  refine RL.eff (Wanted.free rfl) (E.call rfl go14 rfl (around_ok _ _ (by omega) (by omega) (by omega))) rfl ?_
  rintro _ _ ⟨rfl, rfl⟩
  rw [hms]
  refine RL.val (Wanted.free rfl) (V.assign rfl rfl) rfl ?_
  refine RL.nil ?_
  refine SG.seq ?_
  refine SG.region ?_
  refine RL.val (Wanted.free rfl) (V.move rfl rfl) rfl ?_
  refine RL.val (Wanted.free rfl) (V.move rfl rfl) rfl ?_
  refine RL.eff (Wanted.free rfl) (E.call rfl go29 rfl (dFuse_ok hfr (by repeat (first | exact Pick.here | assumption | apply Pick.there)) _ (by omega) (by omega))) rfl ?_
  rintro _ _ ⟨rfl, rfl⟩
  refine RL.nil ?_
  refine SG.seq ?_
  refine SG.seq ?_
  refine SG.region ?_
  refine RL.val (Wanted.free rfl) (V.assign rfl rfl) rfl ?_
  refine RL.nil ?_
  refine SG.block ?_
  refine SG.weaken (SG.loop2 (fun m al M => ∃ (i : Nat) (D : Dk), i ≤ l.length ∧ i ≤ 60 ∧ m = 60 - i ∧ D.ok (i + 1) ∧ Fz mst i D ∧ al = [(2, .slice a l.length c), (7, ptr b14 0), (8, vI mst), (9, vI i)] ∧ M = Dsk b14 D :: L) (m0 := _) ⟨0, _, by omega, by omega, rfl, hfr.blow (by omega), Fz.start (fresh_calm _) mst, rfl, rfl⟩ ?_) ?_ ?_
  rotate_left
  · repeat (first | exact EnvLe.nil _ | refine EnvLe.cons rfl ?_)
  · repeat (first | exact Ent.refl _ | (apply Ent.cons; (· repeat (first | exact Pick.here | (refine Pick.sl ?_; (· repeat (first | exact List.Mem.head _ | assumption | apply List.Mem.tail))) | apply Pick.there))) | (refine Ent.trans (Ent.drop _ _) ?_))
  rintro _ _ _ ⟨i, D, hi, hi60, rfl, hD, hF, rfl, rfl⟩ ih0
  have hlen := hD.len
  refine SG.seq ?_
  refine SG.seq ?_
  refine SG.region ?_
  refine RL.val (Wanted.free rfl) (V.move rfl rfl) rfl ?_
  refine RL.val (Wanted.free rfl) (V.move rfl rfl) rfl ?_
  refine RL.val (Wanted.free rfl) (V.len rfl rfl el22.under rfl) rfl ?_
  refine RL.cmp (Wanted.free rfl) (V.bin rfl rfl rfl B.lss) rfl (fun h16 => ?_) (fun h16 => ?_)
  · skip
    refine RL.val (Wanted.free rfl) (V.move rfl rfl) rfl ?_
    refine RL.val (Wanted.yes rfl rfl rfl rfl) (V.move rfl rfl) rfl ?_
    refine RL.cmp (Wanted.yes rfl rfl rfl rfl) (V.bin rfl rfl rfl B.lss) rfl (fun h19 => ?_) (fun h19 => ?_)
    · skip
      refine RL.val (Wanted.free rfl) (V.pick_true rfl rfl rfl) rfl ?_
      refine RL.nil ?_
      refine SG.cond_true rfl ?_
      refine SG.skip ?_
      refine SG.seq ?_
      refine SG.block ?_
      refine SG.seq ?_
      refine SG.region ?_
      refine RL.val (Wanted.free rfl) (V.assign rfl rfl) rfl ?_
      refine RL.nil ?_
      refine SG.seq ?_
      refine SG.seq ?_
      refine SG.elemOp (a := a) (by repeat (first | exact List.Mem.head _ | assumption | apply List.Mem.tail)) (show l[i]? = some l[i] from List.getElem?_eq_getElem (by omega)) fun ab mb cb al0 ml cl hok => ?_
      obtain ⟨ho1, ho2, ho3⟩ := hok
      unfold inInt at ho1 ho2 ho3
      refine SG.region ?_
      refine RL.val (Wanted.free rfl) (V.move rfl rfl) rfl ?_
      refine RL.val (Wanted.free rfl) (V.move rfl rfl) rfl ?_
      refine RL.val (Wanted.free rfl) (V.indexSl (j := i) rfl el22.slice rfl rfl (by repeat (first | exact List.Mem.head _ | assumption | apply List.Mem.tail)) (by first | rfl | omega) (by omega)) rfl ?_
      refine RL.val (Wanted.free rfl) (V.fieldAt rfl rfl fo35_0 (by repeat (first | exact List.Mem.head _ | assumption | apply List.Mem.tail))) rfl ?_
      refine RL.val (Wanted.free rfl) (V.loadAtF rfl on3 rfl (by repeat (first | exact List.Mem.head _ | assumption | apply List.Mem.tail)) rfl) rfl ?_
      refine RL.eff (Wanted.free rfl) (E.call rfl go14 rfl (around_ok _ _ (by omega) (by omega) (by omega))) rfl ?_
      rintro _ _ ⟨rfl, rfl⟩
      refine RL.cmp (Wanted.free rfl) (V.bin rfl rfl rfl B.eql) rfl (fun h27 => ?_) (fun h27 => ?_)
      · skip
        refine RL.nil ?_
        refine SG.cond_true rfl ?_
        refine SG.region ?_
        refine RL.val (Wanted.free rfl) (V.move rfl rfl) rfl ?_
        refine RL.eff (Wanted.free rfl) (E.call rfl go30 rfl (dFlush_ok hD (by repeat (first | exact Pick.here | assumption | apply Pick.there)) (by omega))) rfl ?_
        rintro _ _ ⟨rfl, rfl⟩
        obtain ⟨hE, hF2⟩ := hF.flush
        rw [hE]
        have hD2 : D.flush.ok (i + 2) := (hD.flush (by omega)).mono (by omega)
        refine RL.val (Wanted.free rfl) (V.assign rfl rfl) rfl ?_
        refine RL.nil ?_
        refine SG.seq ?_
        refine SG.region ?_
        refine RL.val (Wanted.free rfl) (V.move rfl rfl) rfl ?_
        refine RL.val (Wanted.free rfl) (V.move rfl rfl) rfl ?_
        refine RL.cmp (Wanted.free rfl) (V.bin rfl rfl rfl B.lss) rfl (fun h33 => ?_) (fun h33 => ?_)
        · skip
          refine RL.val (Wanted.free rfl) (V.move rfl rfl) rfl ?_
          refine RL.val (Wanted.yes rfl rfl rfl rfl) (V.move rfl rfl) rfl ?_
          refine RL.cmpF (Wanted.yes rfl rfl rfl rfl) (V.bin rfl rfl rfl B.neq) rfl (by rw [if_pos (by omega)]; simp) ?_
          refine RL.val (Wanted.free rfl) (V.pick_true rfl rfl rfl) rfl ?_
          refine RL.val (Wanted.free rfl) (V.move rfl rfl) rfl ?_
          refine RL.val (Wanted.yes rfl rfl rfl rfl) (V.move rfl rfl) rfl ?_
          refine RL.val (Wanted.yes rfl rfl rfl rfl) (V.move rfl rfl) rfl ?_
          refine RL.cmp (Wanted.yes rfl rfl rfl rfl) (V.bin rfl rfl rfl B.geq) rfl (fun h39 => ?_) (fun h39 => ?_)
          · skip
            refine RL.val (Wanted.yes rfl rfl rfl rfl) (V.move rfl rfl) rfl ?_
            refine RL.val (Wanted.yes rfl rfl rfl rfl) (V.move rfl rfl) rfl ?_
            refine RL.cmpF (Wanted.yes rfl rfl rfl rfl) (V.bin rfl rfl rfl B.neq) rfl (by rw [if_neg (by omega)]; simp) ?_
            refine RL.val (Wanted.yes rfl rfl rfl rfl) (V.pick_true rfl rfl rfl) rfl ?_
            refine RL.val (Wanted.free rfl) (V.pick_false rfl rfl rfl) rfl ?_
            refine RL.val (Wanted.free rfl) (V.move rfl rfl) rfl ?_
            refine RL.val (Wanted.yes rfl rfl rfl rfl) (V.move rfl rfl) rfl ?_
            refine RL.eff (Wanted.yes rfl rfl rfl rfl) (E.call rfl go34 rfl (dOn_ok hD2 (by repeat (first | exact Pick.here | assumption | apply Pick.there)))) rfl ?_
            rintro _ _ ⟨rfl, rfl⟩
            refine RL.val (Wanted.yes rfl rfl rfl rfl) (V.move rfl rfl) rfl ?_
            refine RL.val (Wanted.yes rfl rfl rfl rfl) (V.bin rfl rfl rfl (B.addI (by omega) (by omega))) rfl ?_
            refine RL.val (Wanted.yes rfl rfl rfl rfl) (V.move rfl rfl) rfl ?_
            refine RL.cmp (Wanted.yes rfl rfl rfl rfl) (V.bin rfl rfl rfl B.lss) rfl (fun h48 => ?_) (fun h48 => ?_)
            · skip
              refine RL.cmpF (Wanted.yes rfl rfl rfl rfl) (V.neqBool rfl ub4 rfl rfl) rfl (by first | (rw [(hF2.on (by omega)).1]; simp; done) | (rw [hF2.out (by omega)]; simp; done)) ?_
              refine RL.val (Wanted.free rfl) (V.pick_false rfl rfl rfl) rfl ?_
              refine RL.nil ?_
              refine SG.cond_false rfl ?_
              refine SG.skip ?_
              refine SG.inBlock ?_
              refine SG.region ?_
              refine RL.val (Wanted.free rfl) (V.move rfl rfl) rfl ?_
              refine RL.val (Wanted.free rfl) (V.bin rfl rfl rfl (B.addI (by omega) (by omega))) rfl ?_
              refine RL.val (Wanted.free rfl) (V.assign rfl rfl) rfl ?_
              refine RL.nil ?_
              refine SG.weaken (ih0 _ _ _ ?_ ⟨i + 1, _, by omega, by omega, rfl, hD2, hF2, rfl, rfl⟩) ?_ ?_
              · omega
              · repeat (first | exact EnvLe.nil _ | refine EnvLe.cons rfl ?_)
              · repeat (first | exact Ent.refl _ | (apply Ent.cons; (· repeat (first | exact Pick.here | (refine Pick.sl ?_; (· repeat (first | exact List.Mem.head _ | assumption | apply List.Mem.tail))) | apply Pick.there))) | (refine Ent.trans (Ent.drop _ _) ?_))
            · skip
              refine RL.cmpF (Wanted.yes rfl rfl rfl rfl) (V.neqBool rfl ub4 rfl rfl) rfl (by first | (rw [(hF2.on (by omega)).1]; simp; done) | (rw [hF2.out (by omega)]; simp; done)) ?_
              refine RL.val (Wanted.free rfl) (V.pick_false rfl rfl rfl) rfl ?_
              refine RL.nil ?_
              refine SG.cond_false rfl ?_
              refine SG.skip ?_
              refine SG.inBlock ?_
              refine SG.region ?_
              refine RL.val (Wanted.free rfl) (V.move rfl rfl) rfl ?_
              refine RL.val (Wanted.free rfl) (V.bin rfl rfl rfl (B.addI (by omega) (by omega))) rfl ?_
              refine RL.val (Wanted.free rfl) (V.assign rfl rfl) rfl ?_
              refine RL.nil ?_
              refine SG.weaken (ih0 _ _ _ ?_ ⟨i + 1, _, by omega, by omega, rfl, hD2, hF2, rfl, rfl⟩) ?_ ?_
              · omega
              · repeat (first | exact EnvLe.nil _ | refine EnvLe.cons rfl ?_)
              · repeat (first | exact Ent.refl _ | (apply Ent.cons; (· repeat (first | exact Pick.here | (refine Pick.sl ?_; (· repeat (first | exact List.Mem.head _ | assumption | apply List.Mem.tail))) | apply Pick.there))) | (refine Ent.trans (Ent.drop _ _) ?_))
          · skip
            refine RL.val (Wanted.yes rfl rfl rfl rfl) (V.move rfl rfl) rfl ?_
            refine RL.skip (Wanted.no rfl rfl rfl rfl rfl) rfl ?_
            refine RL.skip (Wanted.no rfl rfl rfl rfl rfl) rfl ?_
            refine RL.val (Wanted.yes rfl rfl rfl rfl) (V.pick_false rfl rfl rfl) rfl ?_
            refine RL.val (Wanted.free rfl) (V.pick_false rfl rfl rfl) rfl ?_
            refine RL.val (Wanted.free rfl) (V.move rfl rfl) rfl ?_
            refine RL.val (Wanted.yes rfl rfl rfl rfl) (V.move rfl rfl) rfl ?_
            refine RL.eff (Wanted.yes rfl rfl rfl rfl) (E.call rfl go34 rfl (dOn_ok hD2 (by repeat (first | exact Pick.here | assumption | apply Pick.there)))) rfl ?_
            rintro _ _ ⟨rfl, rfl⟩
            refine RL.val (Wanted.yes rfl rfl rfl rfl) (V.move rfl rfl) rfl ?_
            refine RL.val (Wanted.yes rfl rfl rfl rfl) (V.bin rfl rfl rfl (B.addI (by omega) (by omega))) rfl ?_
            refine RL.val (Wanted.yes rfl rfl rfl rfl) (V.move rfl rfl) rfl ?_
            refine RL.cmp (Wanted.yes rfl rfl rfl rfl) (V.bin rfl rfl rfl B.lss) rfl (fun h62 => ?_) (fun h62 => ?_)
            · skip
              refine RL.cmpF (Wanted.yes rfl rfl rfl rfl) (V.neqBool rfl ub4 rfl rfl) rfl (by first | (rw [(hF2.on (by omega)).1]; simp; done) | (rw [hF2.out (by omega)]; simp; done)) ?_
              refine RL.val (Wanted.free rfl) (V.pick_false rfl rfl rfl) rfl ?_
              refine RL.nil ?_
              refine SG.cond_false rfl ?_
              refine SG.skip ?_
              refine SG.inBlock ?_
              refine SG.region ?_
              refine RL.val (Wanted.free rfl) (V.move rfl rfl) rfl ?_
              refine RL.val (Wanted.free rfl) (V.bin rfl rfl rfl (B.addI (by omega) (by omega))) rfl ?_
              refine RL.val (Wanted.free rfl) (V.assign rfl rfl) rfl ?_
              refine RL.nil ?_
              refine SG.weaken (ih0 _ _ _ ?_ ⟨i + 1, _, by omega, by omega, rfl, hD2, hF2, rfl, rfl⟩) ?_ ?_
              · omega
              · repeat (first | exact EnvLe.nil _ | refine EnvLe.cons rfl ?_)
              · repeat (first | exact Ent.refl _ | (apply Ent.cons; (· repeat (first | exact Pick.here | (refine Pick.sl ?_; (· repeat (first | exact List.Mem.head _ | assumption | apply List.Mem.tail))) | apply Pick.there))) | (refine Ent.trans (Ent.drop _ _) ?_))
            · skip
              refine RL.cmpF (Wanted.yes rfl rfl rfl rfl) (V.neqBool rfl ub4 rfl rfl) rfl (by first | (rw [(hF2.on (by omega)).1]; simp; done) | (rw [hF2.out (by omega)]; simp; done)) ?_
              refine RL.val (Wanted.free rfl) (V.pick_false rfl rfl rfl) rfl ?_
              refine RL.nil ?_
              refine SG.cond_false rfl ?_
              refine SG.skip ?_
              refine SG.inBlock ?_
              refine SG.region ?_
              refine RL.val (Wanted.free rfl) (V.move rfl rfl) rfl ?_
              refine RL.val (Wanted.free rfl) (V.bin rfl rfl rfl (B.addI (by omega) (by omega))) rfl ?_
              refine RL.val (Wanted.free rfl) (V.assign rfl rfl) rfl ?_
              refine RL.nil ?_
              refine SG.weaken (ih0 _ _ _ ?_ ⟨i + 1, _, by omega, by omega, rfl, hD2, hF2, rfl, rfl⟩) ?_ ?_
              · omega
              · repeat (first | exact EnvLe.nil _ | refine EnvLe.cons rfl ?_)
              · repeat (first | exact Ent.refl _ | (apply Ent.cons; (· repeat (first | exact Pick.here | (refine Pick.sl ?_; (· repeat (first | exact List.Mem.head _ | assumption | apply List.Mem.tail))) | apply Pick.there))) | (refine Ent.trans (Ent.drop _ _) ?_))
        · skip
          refine RL.val (Wanted.free rfl) (V.move rfl rfl) rfl ?_
          refine RL.skip (Wanted.no rfl rfl rfl rfl rfl) rfl ?_
          refine RL.skip (Wanted.no rfl rfl rfl rfl rfl) rfl ?_
          refine RL.val (Wanted.free rfl) (V.pick_false rfl rfl rfl) rfl ?_
          refine RL.val (Wanted.free rfl) (V.move rfl rfl) rfl ?_
          refine RL.val (Wanted.yes rfl rfl rfl rfl) (V.move rfl rfl) rfl ?_
          refine RL.val (Wanted.yes rfl rfl rfl rfl) (V.move rfl rfl) rfl ?_
          refine RL.cmp (Wanted.yes rfl rfl rfl rfl) (V.bin rfl rfl rfl B.geq) rfl (fun h73 => ?_) (fun h73 => ?_)
          · skip
            refine RL.val (Wanted.yes rfl rfl rfl rfl) (V.move rfl rfl) rfl ?_
            refine RL.val (Wanted.yes rfl rfl rfl rfl) (V.move rfl rfl) rfl ?_
            refine RL.cmpF (Wanted.yes rfl rfl rfl rfl) (V.bin rfl rfl rfl B.neq) rfl (by rw [if_neg (by omega)]; simp) ?_
            refine RL.val (Wanted.yes rfl rfl rfl rfl) (V.pick_true rfl rfl rfl) rfl ?_
            refine RL.val (Wanted.free rfl) (V.pick_false rfl rfl rfl) rfl ?_
            refine RL.val (Wanted.free rfl) (V.move rfl rfl) rfl ?_
            refine RL.val (Wanted.yes rfl rfl rfl rfl) (V.move rfl rfl) rfl ?_
            refine RL.eff (Wanted.yes rfl rfl rfl rfl) (E.call rfl go34 rfl (dOn_ok hD2 (by repeat (first | exact Pick.here | assumption | apply Pick.there)))) rfl ?_
            rintro _ _ ⟨rfl, rfl⟩
            refine RL.val (Wanted.yes rfl rfl rfl rfl) (V.move rfl rfl) rfl ?_
            refine RL.val (Wanted.yes rfl rfl rfl rfl) (V.bin rfl rfl rfl (B.addI (by omega) (by omega))) rfl ?_
            refine RL.val (Wanted.yes rfl rfl rfl rfl) (V.move rfl rfl) rfl ?_
            refine RL.cmp (Wanted.yes rfl rfl rfl rfl) (V.bin rfl rfl rfl B.lss) rfl (fun h82 => ?_) (fun h82 => ?_)
            · skip
              refine RL.cmpF (Wanted.yes rfl rfl rfl rfl) (V.neqBool rfl ub4 rfl rfl) rfl (by first | (rw [(hF2.on (by omega)).1]; simp; done) | (rw [hF2.out (by omega)]; simp; done)) ?_
              refine RL.val (Wanted.free rfl) (V.pick_false rfl rfl rfl) rfl ?_
              refine RL.nil ?_
              refine SG.cond_false rfl ?_
              refine SG.skip ?_
              refine SG.inBlock ?_
              refine SG.region ?_
              refine RL.val (Wanted.free rfl) (V.move rfl rfl) rfl ?_
              refine RL.val (Wanted.free rfl) (V.bin rfl rfl rfl (B.addI (by omega) (by omega))) rfl ?_
              refine RL.val (Wanted.free rfl) (V.assign rfl rfl) rfl ?_
              refine RL.nil ?_
              refine SG.weaken (ih0 _ _ _ ?_ ⟨i + 1, _, by omega, by omega, rfl, hD2, hF2, rfl, rfl⟩) ?_ ?_
              · omega
              · repeat (first | exact EnvLe.nil _ | refine EnvLe.cons rfl ?_)
              · repeat (first | exact Ent.refl _ | (apply Ent.cons; (· repeat (first | exact Pick.here | (refine Pick.sl ?_; (· repeat (first | exact List.Mem.head _ | assumption | apply List.Mem.tail))) | apply Pick.there))) | (refine Ent.trans (Ent.drop _ _) ?_))
            · skip
              refine RL.cmpF (Wanted.yes rfl rfl rfl rfl) (V.neqBool rfl ub4 rfl rfl) rfl (by first | (rw [(hF2.on (by omega)).1]; simp; done) | (rw [hF2.out (by omega)]; simp; done)) ?_
              refine RL.val (Wanted.free rfl) (V.pick_false rfl rfl rfl) rfl ?_
              refine RL.nil ?_
              refine SG.cond_false rfl ?_
              refine SG.skip ?_
              refine SG.inBlock ?_
              refine SG.region ?_
              refine RL.val (Wanted.free rfl) (V.move rfl rfl) rfl ?_
              refine RL.val (Wanted.free rfl) (V.bin rfl rfl rfl (B.addI (by omega) (by omega))) rfl ?_
              refine RL.val (Wanted.free rfl) (V.assign rfl rfl) rfl ?_
              refine RL.nil ?_
              refine SG.weaken (ih0 _ _ _ ?_ ⟨i + 1, _, by omega, by omega, rfl, hD2, hF2, rfl, rfl⟩) ?_ ?_
              · omega
              · repeat (first | exact EnvLe.nil _ | refine EnvLe.cons rfl ?_)
              · repeat (first | exact Ent.refl _ | (apply Ent.cons; (· repeat (first | exact Pick.here | (refine Pick.sl ?_; (· repeat (first | exact List.Mem.head _ | assumption | apply List.Mem.tail))) | apply Pick.there))) | (refine Ent.trans (Ent.drop _ _) ?_))
          · skip
            refine RL.val (Wanted.yes rfl rfl rfl rfl) (V.move rfl rfl) rfl ?_
            refine RL.skip (Wanted.no rfl rfl rfl rfl rfl) rfl ?_
            refine RL.skip (Wanted.no rfl rfl rfl rfl rfl) rfl ?_
            refine RL.val (Wanted.yes rfl rfl rfl rfl) (V.pick_false rfl rfl rfl) rfl ?_
            refine RL.val (Wanted.free rfl) (V.pick_false rfl rfl rfl) rfl ?_
            refine RL.val (Wanted.free rfl) (V.move rfl rfl) rfl ?_
            refine RL.val (Wanted.yes rfl rfl rfl rfl) (V.move rfl rfl) rfl ?_
            refine RL.eff (Wanted.yes rfl rfl rfl rfl) (E.call rfl go34 rfl (dOn_ok hD2 (by repeat (first | exact Pick.here | assumption | apply Pick.there)))) rfl ?_
            rintro _ _ ⟨rfl, rfl⟩
            refine RL.val (Wanted.yes rfl rfl rfl rfl) (V.move rfl rfl) rfl ?_
            refine RL.val (Wanted.yes rfl rfl rfl rfl) (V.bin rfl rfl rfl (B.addI (by omega) (by omega))) rfl ?_
            refine RL.val (Wanted.yes rfl rfl rfl rfl) (V.move rfl rfl) rfl ?_
            refine RL.cmp (Wanted.yes rfl rfl rfl rfl) (V.bin rfl rfl rfl B.lss) rfl (fun h96 => ?_) (fun h96 => ?_)
            · skip
              refine RL.cmpF (Wanted.yes rfl rfl rfl rfl) (V.neqBool rfl ub4 rfl rfl) rfl (by first | (rw [(hF2.on (by omega)).1]; simp; done) | (rw [hF2.out (by omega)]; simp; done)) ?_
              refine RL.val (Wanted.free rfl) (V.pick_false rfl rfl rfl) rfl ?_
              refine RL.nil ?_
              refine SG.cond_false rfl ?_
              refine SG.skip ?_
              refine SG.inBlock ?_
              refine SG.region ?_
              refine RL.val (Wanted.free rfl) (V.move rfl rfl) rfl ?_
              refine RL.val (Wanted.free rfl) (V.bin rfl rfl rfl (B.addI (by omega) (by omega))) rfl ?_
              refine RL.val (Wanted.free rfl) (V.assign rfl rfl) rfl ?_
              refine RL.nil ?_
              refine SG.weaken (ih0 _ _ _ ?_ ⟨i + 1, _, by omega, by omega, rfl, hD2, hF2, rfl, rfl⟩) ?_ ?_
              · omega
              · repeat (first | exact EnvLe.nil _ | refine EnvLe.cons rfl ?_)
              · repeat (first | exact Ent.refl _ | (apply Ent.cons; (· repeat (first | exact Pick.here | (refine Pick.sl ?_; (· repeat (first | exact List.Mem.head _ | assumption | apply List.Mem.tail))) | apply Pick.there))) | (refine Ent.trans (Ent.drop _ _) ?_))
            · skip
              refine RL.cmpF (Wanted.yes rfl rfl rfl rfl) (V.neqBool rfl ub4 rfl rfl) rfl (by first | (rw [(hF2.on (by omega)).1]; simp; done) | (rw [hF2.out (by omega)]; simp; done)) ?_
              refine RL.val (Wanted.free rfl) (V.pick_false rfl rfl rfl) rfl ?_
              refine RL.nil ?_
              refine SG.cond_false rfl ?_
              refine SG.skip ?_
              refine SG.inBlock ?_
              refine SG.region ?_
              refine RL.val (Wanted.free rfl) (V.move rfl rfl) rfl ?_
              refine RL.val (Wanted.free rfl) (V.bin rfl rfl rfl (B.addI (by omega) (by omega))) rfl ?_
              refine RL.val (Wanted.free rfl) (V.assign rfl rfl) rfl ?_
              refine RL.nil ?_
              refine SG.weaken (ih0 _ _ _ ?_ ⟨i + 1, _, by omega, by omega, rfl, hD2, hF2, rfl, rfl⟩) ?_ ?_
              · omega
              · repeat (first | exact EnvLe.nil _ | refine EnvLe.cons rfl ?_)
              · repeat (first | exact Ent.refl _ | (apply Ent.cons; (· repeat (first | exact Pick.here | (refine Pick.sl ?_; (· repeat (first | exact List.Mem.head _ | assumption | apply List.Mem.tail))) | apply Pick.there))) | (refine Ent.trans (Ent.drop _ _) ?_))
      · skip
        refine RL.nil ?_
        refine SG.cond_false rfl ?_
        obtain ⟨kk, hkk, hkk2⟩ := aroundV_nat (n := l[i].k) (most := (D.S.length : Int)) (by omega)
        refine SG.drawN 23 23 (Sl R8 ab mb cb l[i].b :: Sl RTorn al0 ml cl l[i].l :: At a (i * 5) [vI l[i].kind, vI l[i].k, vI l[i].n, .slice ab mb cb, .slice al0 ml cl] :: L) wide rfl rfl (by repeat (first | exact Ent.refl _ | (apply Ent.cons; (· repeat (first | exact Pick.here | (refine Pick.sl ?_; (· repeat (first | exact List.Mem.head _ | assumption | apply List.Mem.tail))) | apply Pick.there))) | (refine Ent.trans (Ent.drop _ _) ?_))) ?_
        refine RH.val 0 rfl (by kernel_rfl) (by kernel_rfl) (by kernel_rfl) (by kernel_rfl) (Wanted.free rfl) (V.move rfl rfl) rfl ?_
        refine RH.val 1 rfl (by kernel_rfl) (by kernel_rfl) (by kernel_rfl) (by kernel_rfl) (Wanted.free rfl) (V.move rfl rfl) rfl ?_
        refine RH.val 2 rfl (by kernel_rfl) (by kernel_rfl) (by kernel_rfl) (by kernel_rfl) (Wanted.free rfl) (V.move rfl rfl) rfl ?_
        refine RH.val 3 rfl (by kernel_rfl) (by kernel_rfl) (by kernel_rfl) (by kernel_rfl) (Wanted.free rfl) (V.indexSl (j := i) rfl el22.slice rfl rfl (by repeat (first | exact List.Mem.head _ | assumption | apply List.Mem.tail)) (by first | rfl | omega) (by omega)) rfl ?_
        refine RH.val 4 rfl (by kernel_rfl) (by kernel_rfl) (by kernel_rfl) (by kernel_rfl) (Wanted.free rfl) (V.fieldAt rfl rfl fo35_1 (by repeat (first | exact List.Mem.head _ | assumption | apply List.Mem.tail))) rfl ?_
        refine RH.val 5 rfl (by kernel_rfl) (by kernel_rfl) (by kernel_rfl) (by kernel_rfl) (Wanted.free rfl) (V.loadAtF rfl on3 rfl (by repeat (first | exact List.Mem.head _ | assumption | apply List.Mem.tail)) rfl) rfl ?_
        refine RH.val 6 rfl (by kernel_rfl) (by kernel_rfl) (by kernel_rfl) (by kernel_rfl) (Wanted.free rfl) (V.move rfl rfl) rfl ?_
        refine RH.val 9 rfl (by kernel_rfl) (by kernel_rfl) (by kernel_rfl) (by kernel_rfl) (Wanted.free rfl) (V.move rfl rfl) rfl ?_
        refine RH.val 10 rfl (by kernel_rfl) (by kernel_rfl) (by kernel_rfl) (by kernel_rfl) (Wanted.free rfl) (V.move rfl rfl) rfl ?_
        refine RH.val 11 rfl (by kernel_rfl) (by kernel_rfl) (by kernel_rfl) (by kernel_rfl) (Wanted.free rfl) (V.indexSl (j := i) rfl el22.slice rfl rfl (by repeat (first | exact List.Mem.head _ | assumption | apply List.Mem.tail)) (by first | rfl | omega) (by omega)) rfl ?_
        refine RH.val 12 rfl (by kernel_rfl) (by kernel_rfl) (by kernel_rfl) (by kernel_rfl) (Wanted.free rfl) (V.fieldAt rfl rfl fo35_3 (by repeat (first | exact List.Mem.head _ | assumption | apply List.Mem.tail))) rfl ?_
        refine RH.val 13 rfl (by kernel_rfl) (by kernel_rfl) (by kernel_rfl) (by kernel_rfl) (Wanted.free rfl) (V.loadAtF rfl on32 rfl (by repeat (first | exact List.Mem.head _ | assumption | apply List.Mem.tail)) rfl) rfl ?_
        refine RH.val 15 rfl (by kernel_rfl) (by kernel_rfl) (by kernel_rfl) (by kernel_rfl) (Wanted.free rfl) (V.move rfl rfl) rfl ?_
        refine RH.val 16 rfl (by kernel_rfl) (by kernel_rfl) (by kernel_rfl) (by kernel_rfl) (Wanted.free rfl) (V.move rfl rfl) rfl ?_
        refine RH.val 17 rfl (by kernel_rfl) (by kernel_rfl) (by kernel_rfl) (by kernel_rfl) (Wanted.free rfl) (V.indexSl (j := i) rfl el22.slice rfl rfl (by repeat (first | exact List.Mem.head _ | assumption | apply List.Mem.tail)) (by first | rfl | omega) (by omega)) rfl ?_
        refine RH.val 18 rfl (by kernel_rfl) (by kernel_rfl) (by kernel_rfl) (by kernel_rfl) (Wanted.free rfl) (V.fieldAt rfl rfl fo35_2 (by repeat (first | exact List.Mem.head _ | assumption | apply List.Mem.tail))) rfl ?_
        refine RH.val 19 rfl (by kernel_rfl) (by kernel_rfl) (by kernel_rfl) (by kernel_rfl) (Wanted.free rfl) (V.loadAtF rfl on3 rfl (by repeat (first | exact List.Mem.head _ | assumption | apply List.Mem.tail)) rfl) rfl ?_
        refine RH.one (i := 7) (by kernel_rfl) ?_
        refine RHone.eff rfl (Wanted.free rfl) (E.call rfl go20 rfl (dLen_ok hD (by repeat (first | exact Pick.here | assumption | apply Pick.there)))) rfl ?_
        rintro _ _ ⟨rfl, rfl⟩
        refine ⟨.inr (by repeat (first | exact Ent.refl _ | (apply Ent.cons; (· repeat (first | exact Pick.here | (refine Pick.sl ?_; (· repeat (first | exact List.Mem.head _ | assumption | apply List.Mem.tail))) | apply Pick.there))) | (refine Ent.trans (Ent.drop _ _) ?_))), ?_⟩
        refine RH.one (i := 8) (by kernel_rfl) ?_
        refine RHone.eff rfl (Wanted.free rfl) (E.call rfl go14 rfl (around_ok _ _ (by omega) (by omega) (by omega))) rfl ?_
        rintro _ _ ⟨rfl, rfl⟩
        refine ⟨.inr (by repeat (first | exact Ent.refl _ | (apply Ent.cons; (· repeat (first | exact Pick.here | (refine Pick.sl ?_; (· repeat (first | exact List.Mem.head _ | assumption | apply List.Mem.tail))) | apply Pick.there))) | (refine Ent.trans (Ent.drop _ _) ?_))), ?_⟩
        rw [hkk]
        refine RH.one (i := 14) (by kernel_rfl) ?_
        refine RHone.eff rfl (Wanted.free rfl) (E.call rfl go33 rfl (few_ok (a := ab) (by repeat (first | exact List.Mem.head _ | assumption | apply List.Mem.tail)) (by decide) (by decide))) rfl ?_
        rintro _ _ ⟨a46, k46, c46, rfl, rfl⟩
        refine ⟨.inr (by repeat (first | exact Ent.refl _ | (apply Ent.cons; (· repeat (first | exact Pick.here | (refine Pick.sl ?_; (· repeat (first | exact List.Mem.head _ | assumption | apply List.Mem.tail))) | apply Pick.there))) | (refine Ent.trans (Ent.drop _ _) ?_))), ?_⟩
        refine RH.publish (T := R8) (a := a46) Pick.here ?_
        refine RH.one (i := 20) (by kernel_rfl) ?_
        refine RHone.eff rfl (Wanted.free rfl) (E.call rfl go32 rfl (fill_ok (a := a46) _ (by repeat (first | exact List.Mem.head _ | assumption | apply List.Mem.tail)) (by omega) (by omega))) rfl ?_
        rintro _ _ ⟨a52, c52, s52, hs52, rfl, rfl⟩
        refine ⟨.inr (by repeat (first | exact Ent.refl _ | (apply Ent.cons; (· repeat (first | exact Pick.here | (refine Pick.sl ?_; (· repeat (first | exact List.Mem.head _ | assumption | apply List.Mem.tail))) | apply Pick.there))) | (refine Ent.trans (Ent.drop _ _) ?_))), ?_⟩
        refine RH.publish (T := R8) (a := a52) Pick.here ?_
        refine RH.one (i := 21) (by kernel_rfl) ?_
        refine RHone.eff rfl (Wanted.free rfl) (E.call rfl go31 rfl (dWrite_ok hD (by repeat (first | exact Pick.here | assumption | apply Pick.there)) _ (s := s52) (by repeat (first | exact List.Mem.head _ | assumption | apply List.Mem.tail)) (by omega))) rfl ?_
        rintro _ _ ⟨rfl, rfl⟩
        refine ⟨.inr (by repeat (first | exact Ent.refl _ | (apply Ent.cons; (· repeat (first | exact Pick.here | (refine Pick.sl ?_; (· repeat (first | exact List.Mem.head _ | assumption | apply List.Mem.tail))) | apply Pick.there))) | (refine Ent.trans (Ent.drop _ _) ?_))), ?_⟩
        obtain ⟨hE, hF2⟩ := hF.write (k := (kk : Int)) (s := s52) (by omega) (by omega) hs52
        rw [hE]
        have hD2 : (D.write kk s52).ok (i + 2) := hD.write _ _
        refine RH.val 22 rfl (by kernel_rfl) (by kernel_rfl) (by kernel_rfl) (by kernel_rfl) (Wanted.free rfl) (V.assign rfl rfl) rfl ?_
        refine RH.done (by kernel_rfl) ?_
        refine SG.seq ?_
        refine SG.region ?_
        refine RL.val (Wanted.free rfl) (V.move rfl rfl) rfl ?_
        refine RL.val (Wanted.free rfl) (V.move rfl rfl) rfl ?_
        refine RL.cmp (Wanted.free rfl) (V.bin rfl rfl rfl B.lss) rfl (fun h128 => ?_) (fun h128 => ?_)
        · skip
          refine RL.val (Wanted.free rfl) (V.move rfl rfl) rfl ?_
          refine RL.val (Wanted.yes rfl rfl rfl rfl) (V.move rfl rfl) rfl ?_
          refine RL.cmpF (Wanted.yes rfl rfl rfl rfl) (V.bin rfl rfl rfl B.neq) rfl (by rw [if_pos (by omega)]; simp) ?_
          refine RL.val (Wanted.free rfl) (V.pick_true rfl rfl rfl) rfl ?_
          refine RL.val (Wanted.free rfl) (V.move rfl rfl) rfl ?_
          refine RL.val (Wanted.yes rfl rfl rfl rfl) (V.move rfl rfl) rfl ?_
          refine RL.val (Wanted.yes rfl rfl rfl rfl) (V.move rfl rfl) rfl ?_
          refine RL.cmp (Wanted.yes rfl rfl rfl rfl) (V.bin rfl rfl rfl B.geq) rfl (fun h134 => ?_) (fun h134 => ?_)
          · skip
            refine RL.val (Wanted.yes rfl rfl rfl rfl) (V.move rfl rfl) rfl ?_
            refine RL.val (Wanted.yes rfl rfl rfl rfl) (V.move rfl rfl) rfl ?_
            refine RL.cmpF (Wanted.yes rfl rfl rfl rfl) (V.bin rfl rfl rfl B.neq) rfl (by rw [if_neg (by omega)]; simp) ?_
            refine RL.val (Wanted.yes rfl rfl rfl rfl) (V.pick_true rfl rfl rfl) rfl ?_
            refine RL.val (Wanted.free rfl) (V.pick_false rfl rfl rfl) rfl ?_
            refine RL.val (Wanted.free rfl) (V.move rfl rfl) rfl ?_
            refine RL.val (Wanted.yes rfl rfl rfl rfl) (V.move rfl rfl) rfl ?_
            refine RL.eff (Wanted.yes rfl rfl rfl rfl) (E.call rfl go34 rfl (dOn_ok hD2 (by repeat (first | exact Pick.here | assumption | apply Pick.there)))) rfl ?_
            rintro _ _ ⟨rfl, rfl⟩
            refine RL.val (Wanted.yes rfl rfl rfl rfl) (V.move rfl rfl) rfl ?_
            refine RL.val (Wanted.yes rfl rfl rfl rfl) (V.bin rfl rfl rfl (B.addI (by omega) (by omega))) rfl ?_
            refine RL.val (Wanted.yes rfl rfl rfl rfl) (V.move rfl rfl) rfl ?_
            refine RL.cmp (Wanted.yes rfl rfl rfl rfl) (V.bin rfl rfl rfl B.lss) rfl (fun h143 => ?_) (fun h143 => ?_)
            · skip
              refine RL.cmpF (Wanted.yes rfl rfl rfl rfl) (V.neqBool rfl ub4 rfl rfl) rfl (by first | (rw [(hF2.on (by omega)).1]; simp; done) | (rw [hF2.out (by omega)]; simp; done)) ?_
              refine RL.val (Wanted.free rfl) (V.pick_false rfl rfl rfl) rfl ?_
              refine RL.nil ?_
              refine SG.cond_false rfl ?_
              refine SG.skip ?_
              refine SG.inBlock ?_
              refine SG.region ?_
              refine RL.val (Wanted.free rfl) (V.move rfl rfl) rfl ?_
              refine RL.val (Wanted.free rfl) (V.bin rfl rfl rfl (B.addI (by omega) (by omega))) rfl ?_
              refine RL.val (Wanted.free rfl) (V.assign rfl rfl) rfl ?_
              refine RL.nil ?_
              refine SG.weaken (ih0 _ _ _ ?_ ⟨i + 1, _, by omega, by omega, rfl, hD2, hF2, rfl, rfl⟩) ?_ ?_
              · omega
              · repeat (first | exact EnvLe.nil _ | refine EnvLe.cons rfl ?_)
              · repeat (first | exact Ent.refl _ | (apply Ent.cons; (· repeat (first | exact Pick.here | (refine Pick.sl ?_; (· repeat (first | exact List.Mem.head _ | assumption | apply List.Mem.tail))) | apply Pick.there))) | (refine Ent.trans (Ent.drop _ _) ?_))
            · skip
              refine RL.cmpF (Wanted.yes rfl rfl rfl rfl) (V.neqBool rfl ub4 rfl rfl) rfl (by first | (rw [(hF2.on (by omega)).1]; simp; done) | (rw [hF2.out (by omega)]; simp; done)) ?_
              refine RL.val (Wanted.free rfl) (V.pick_false rfl rfl rfl) rfl ?_
              refine RL.nil ?_
              refine SG.cond_false rfl ?_
              refine SG.skip ?_
              refine SG.inBlock ?_
              refine SG.region ?_
              refine RL.val (Wanted.free rfl) (V.move rfl rfl) rfl ?_
              refine RL.val (Wanted.free rfl) (V.bin rfl rfl rfl (B.addI (by omega) (by omega))) rfl ?_
              refine RL.val (Wanted.free rfl) (V.assign rfl rfl) rfl ?_
              refine RL.nil ?_
              refine SG.weaken (ih0 _ _ _ ?_ ⟨i + 1, _, by omega, by omega, rfl, hD2, hF2, rfl, rfl⟩) ?_ ?_
              · omega
              · repeat (first | exact EnvLe.nil _ | refine EnvLe.cons rfl ?_)
              · repeat (first | exact Ent.refl _ | (apply Ent.cons; (· repeat (first | exact Pick.here | (refine Pick.sl ?_; (· repeat (first | exact List.Mem.head _ | assumption | apply List.Mem.tail))) | apply Pick.there))) | (refine Ent.trans (Ent.drop _ _) ?_))
          · skip
            refine RL.val (Wanted.yes rfl rfl rfl rfl) (V.move rfl rfl) rfl ?_
            refine RL.skip (Wanted.no rfl rfl rfl rfl rfl) rfl ?_
            refine RL.skip (Wanted.no rfl rfl rfl rfl rfl) rfl ?_
            refine RL.val (Wanted.yes rfl rfl rfl rfl) (V.pick_false rfl rfl rfl) rfl ?_
            refine RL.val (Wanted.free rfl) (V.pick_false rfl rfl rfl) rfl ?_
            refine RL.val (Wanted.free rfl) (V.move rfl rfl) rfl ?_
            refine RL.val (Wanted.yes rfl rfl rfl rfl) (V.move rfl rfl) rfl ?_
            refine RL.eff (Wanted.yes rfl rfl rfl rfl) (E.call rfl go34 rfl (dOn_ok hD2 (by repeat (first | exact Pick.here | assumption | apply Pick.there)))) rfl ?_
            rintro _ _ ⟨rfl, rfl⟩
            refine RL.val (Wanted.yes rfl rfl rfl rfl) (V.move rfl rfl) rfl ?_
            refine RL.val (Wanted.yes rfl rfl rfl rfl) (V.bin rfl rfl rfl (B.addI (by omega) (by omega))) rfl ?_
            refine RL.val (Wanted.yes rfl rfl rfl rfl) (V.move rfl rfl) rfl ?_
            refine RL.cmp (Wanted.yes rfl rfl rfl rfl) (V.bin rfl rfl rfl B.lss) rfl (fun h157 => ?_) (fun h157 => ?_)
            · skip
              refine RL.cmpF (Wanted.yes rfl rfl rfl rfl) (V.neqBool rfl ub4 rfl rfl) rfl (by first | (rw [(hF2.on (by omega)).1]; simp; done) | (rw [hF2.out (by omega)]; simp; done)) ?_
              refine RL.val (Wanted.free rfl) (V.pick_false rfl rfl rfl) rfl ?_
              refine RL.nil ?_
              refine SG.cond_false rfl ?_
              refine SG.skip ?_
              refine SG.inBlock ?_
              refine SG.region ?_
              refine RL.val (Wanted.free rfl) (V.move rfl rfl) rfl ?_
              refine RL.val (Wanted.free rfl) (V.bin rfl rfl rfl (B.addI (by omega) (by omega))) rfl ?_
              refine RL.val (Wanted.free rfl) (V.assign rfl rfl) rfl ?_
              refine RL.nil ?_
              refine SG.weaken (ih0 _ _ _ ?_ ⟨i + 1, _, by omega, by omega, rfl, hD2, hF2, rfl, rfl⟩) ?_ ?_
              · omega
              · repeat (first | exact EnvLe.nil _ | refine EnvLe.cons rfl ?_)
              · repeat (first | exact Ent.refl _ | (apply Ent.cons; (· repeat (first | exact Pick.here | (refine Pick.sl ?_; (· repeat (first | exact List.Mem.head _ | assumption | apply List.Mem.tail))) | apply Pick.there))) | (refine Ent.trans (Ent.drop _ _) ?_))
            · skip
              refine RL.cmpF (Wanted.yes rfl rfl rfl rfl) (V.neqBool rfl ub4 rfl rfl) rfl (by first | (rw [(hF2.on (by omega)).1]; simp; done) | (rw [hF2.out (by omega)]; simp; done)) ?_
              refine RL.val (Wanted.free rfl) (V.pick_false rfl rfl rfl) rfl ?_
              refine RL.nil ?_
              refine SG.cond_false rfl ?_
              refine SG.skip ?_
              refine SG.inBlock ?_
              refine SG.region ?_
              refine RL.val (Wanted.free rfl) (V.move rfl rfl) rfl ?_
              refine RL.val (Wanted.free rfl) (V.bin rfl rfl rfl (B.addI (by omega) (by omega))) rfl ?_
              refine RL.val (Wanted.free rfl) (V.assign rfl rfl) rfl ?_
              refine RL.nil ?_
              refine SG.weaken (ih0 _ _ _ ?_ ⟨i + 1, _, by omega, by omega, rfl, hD2, hF2, rfl, rfl⟩) ?_ ?_
              · omega
              · repeat (first | exact EnvLe.nil _ | refine EnvLe.cons rfl ?_)
              · repeat (first | exact Ent.refl _ | (apply Ent.cons; (· repeat (first | exact Pick.here | (refine Pick.sl ?_; (· repeat (first | exact List.Mem.head _ | assumption | apply List.Mem.tail))) | apply Pick.there))) | (refine Ent.trans (Ent.drop _ _) ?_))
        · skip
          refine RL.val (Wanted.free rfl) (V.move rfl rfl) rfl ?_
          refine RL.skip (Wanted.no rfl rfl rfl rfl rfl) rfl ?_
          refine RL.skip (Wanted.no rfl rfl rfl rfl rfl) rfl ?_
          refine RL.val (Wanted.free rfl) (V.pick_false rfl rfl rfl) rfl ?_
          refine RL.val (Wanted.free rfl) (V.move rfl rfl) rfl ?_
          refine RL.val (Wanted.yes rfl rfl rfl rfl) (V.move rfl rfl) rfl ?_
          refine RL.val (Wanted.yes rfl rfl rfl rfl) (V.move rfl rfl) rfl ?_
          refine RL.cmp (Wanted.yes rfl rfl rfl rfl) (V.bin rfl rfl rfl B.geq) rfl (fun h168 => ?_) (fun h168 => ?_)
          · skip
            refine RL.val (Wanted.yes rfl rfl rfl rfl) (V.move rfl rfl) rfl ?_
            refine RL.val (Wanted.yes rfl rfl rfl rfl) (V.move rfl rfl) rfl ?_
            refine RL.cmpF (Wanted.yes rfl rfl rfl rfl) (V.bin rfl rfl rfl B.neq) rfl (by rw [if_neg (by omega)]; simp) ?_
            refine RL.val (Wanted.yes rfl rfl rfl rfl) (V.pick_true rfl rfl rfl) rfl ?_
            refine RL.val (Wanted.free rfl) (V.pick_false rfl rfl rfl) rfl ?_
            refine RL.val (Wanted.free rfl) (V.move rfl rfl) rfl ?_
            refine RL.val (Wanted.yes rfl rfl rfl rfl) (V.move rfl rfl) rfl ?_
            refine RL.eff (Wanted.yes rfl rfl rfl rfl) (E.call rfl go34 rfl (dOn_ok hD2 (by repeat (first | exact Pick.here | assumption | apply Pick.there)))) rfl ?_
            rintro _ _ ⟨rfl, rfl⟩
            refine RL.val (Wanted.yes rfl rfl rfl rfl) (V.move rfl rfl) rfl ?_
            refine RL.val (Wanted.yes rfl rfl rfl rfl) (V.bin rfl rfl rfl (B.addI (by omega) (by omega))) rfl ?_
            refine RL.val (Wanted.yes rfl rfl rfl rfl) (V.move rfl rfl) rfl ?_
            refine RL.cmp (Wanted.yes rfl rfl rfl rfl) (V.bin rfl rfl rfl B.lss) rfl (fun h177 => ?_) (fun h177 => ?_)
            · skip
              refine RL.cmpF (Wanted.yes rfl rfl rfl rfl) (V.neqBool rfl ub4 rfl rfl) rfl (by first | (rw [(hF2.on (by omega)).1]; simp; done) | (rw [hF2.out (by omega)]; simp; done)) ?_
              refine RL.val (Wanted.free rfl) (V.pick_false rfl rfl rfl) rfl ?_
              refine RL.nil ?_
              refine SG.cond_false rfl ?_
              refine SG.skip ?_
              refine SG.inBlock ?_
              refine SG.region ?_
              refine RL.val (Wanted.free rfl) (V.move rfl rfl) rfl ?_
              refine RL.val (Wanted.free rfl) (V.bin rfl rfl rfl (B.addI (by omega) (by omega))) rfl ?_
              refine RL.val (Wanted.free rfl) (V.assign rfl rfl) rfl ?_
              refine RL.nil ?_
              refine SG.weaken (ih0 _ _ _ ?_ ⟨i + 1, _, by omega, by omega, rfl, hD2, hF2, rfl, rfl⟩) ?_ ?_
              · omega
              · repeat (first | exact EnvLe.nil _ | refine EnvLe.cons rfl ?_)
              · repeat (first | exact Ent.refl _ | (apply Ent.cons; (· repeat (first | exact Pick.here | (refine Pick.sl ?_; (· repeat (first | exact List.Mem.head _ | assumption | apply List.Mem.tail))) | apply Pick.there))) | (refine Ent.trans (Ent.drop _ _) ?_))
            · skip
              refine RL.cmpF (Wanted.yes rfl rfl rfl rfl) (V.neqBool rfl ub4 rfl rfl) rfl (by first | (rw [(hF2.on (by omega)).1]; simp; done) | (rw [hF2.out (by omega)]; simp; done)) ?_
              refine RL.val (Wanted.free rfl) (V.pick_false rfl rfl rfl) rfl ?_
              refine RL.nil ?_
              refine SG.cond_false rfl ?_
              refine SG.skip ?_
              refine SG.inBlock ?_
              refine SG.region ?_
              refine RL.val (Wanted.free rfl) (V.move rfl rfl) rfl ?_
              refine RL.val (Wanted.free rfl) (V.bin rfl rfl rfl (B.addI (by omega) (by omega))) rfl ?_
              refine RL.val (Wanted.free rfl) (V.assign rfl rfl) rfl ?_
              refine RL.nil ?_
              refine SG.weaken (ih0 _ _ _ ?_ ⟨i + 1, _, by omega, by omega, rfl, hD2, hF2, rfl, rfl⟩) ?_ ?_
              · omega
              · repeat (first | exact EnvLe.nil _ | refine EnvLe.cons rfl ?_)
              · repeat (first | exact Ent.refl _ | (apply Ent.cons; (· repeat (first | exact Pick.here | (refine Pick.sl ?_; (· repeat (first | exact List.Mem.head _ | assumption | apply List.Mem.tail))) | apply Pick.there))) | (refine Ent.trans (Ent.drop _ _) ?_))
          · skip
            refine RL.val (Wanted.yes rfl rfl rfl rfl) (V.move rfl rfl) rfl ?_
            refine RL.skip (Wanted.no rfl rfl rfl rfl rfl) rfl ?_
            refine RL.skip (Wanted.no rfl rfl rfl rfl rfl) rfl ?_
            refine RL.val (Wanted.yes rfl rfl rfl rfl) (V.pick_false rfl rfl rfl) rfl ?_
            refine RL.val (Wanted.free rfl) (V.pick_false rfl rfl rfl) rfl ?_
            refine RL.val (Wanted.free rfl) (V.move rfl rfl) rfl ?_
            refine RL.val (Wanted.yes rfl rfl rfl rfl) (V.move rfl rfl) rfl ?_
            refine RL.eff (Wanted.yes rfl rfl rfl rfl) (E.call rfl go34 rfl (dOn_ok hD2 (by repeat (first | exact Pick.here | assumption | apply Pick.there)))) rfl ?_
            rintro _ _ ⟨rfl, rfl⟩
            refine RL.val (Wanted.yes rfl rfl rfl rfl) (V.move rfl rfl) rfl ?_
            refine RL.val (Wanted.yes rfl rfl rfl rfl) (V.bin rfl rfl rfl (B.addI (by omega) (by omega))) rfl ?_
            refine RL.val (Wanted.yes rfl rfl rfl rfl) (V.move rfl rfl) rfl ?_
            refine RL.cmp (Wanted.yes rfl rfl rfl rfl) (V.bin rfl rfl rfl B.lss) rfl (fun h191 => ?_) (fun h191 => ?_)
            · skip
              refine RL.cmpF (Wanted.yes rfl rfl rfl rfl) (V.neqBool rfl ub4 rfl rfl) rfl (by first | (rw [(hF2.on (by omega)).1]; simp; done) | (rw [hF2.out (by omega)]; simp; done)) ?_
              refine RL.val (Wanted.free rfl) (V.pick_false rfl rfl rfl) rfl ?_
              refine RL.nil ?_
              refine SG.cond_false rfl ?_
              refine SG.skip ?_
              refine SG.inBlock ?_
              refine SG.region ?_
              refine RL.val (Wanted.free rfl) (V.move rfl rfl) rfl ?_
              refine RL.val (Wanted.free rfl) (V.bin rfl rfl rfl (B.addI (by omega) (by omega))) rfl ?_
              refine RL.val (Wanted.free rfl) (V.assign rfl rfl) rfl ?_
              refine RL.nil ?_
              refine SG.weaken (ih0 _ _ _ ?_ ⟨i + 1, _, by omega, by omega, rfl, hD2, hF2, rfl, rfl⟩) ?_ ?_
              · omega
              · repeat (first | exact EnvLe.nil _ | refine EnvLe.cons rfl ?_)
              · repeat (first | exact Ent.refl _ | (apply Ent.cons; (· repeat (first | exact Pick.here | (refine Pick.sl ?_; (· repeat (first | exact List.Mem.head _ | assumption | apply List.Mem.tail))) | apply Pick.there))) | (refine Ent.trans (Ent.drop _ _) ?_))
            · skip
              refine RL.cmpF (Wanted.yes rfl rfl rfl rfl) (V.neqBool rfl ub4 rfl rfl) rfl (by first | (rw [(hF2.on (by omega)).1]; simp; done) | (rw [hF2.out (by omega)]; simp; done)) ?_
              refine RL.val (Wanted.free rfl) (V.pick_false rfl rfl rfl) rfl ?_
              refine RL.nil ?_
              refine SG.cond_false rfl ?_
              refine SG.skip ?_
              refine SG.inBlock ?_
              refine SG.region ?_
              refine RL.val (Wanted.free rfl) (V.move rfl rfl) rfl ?_
              refine RL.val (Wanted.free rfl) (V.bin rfl rfl rfl (B.addI (by omega) (by omega))) rfl ?_
              refine RL.val (Wanted.free rfl) (V.assign rfl rfl) rfl ?_
              refine RL.nil ?_
              refine SG.weaken (ih0 _ _ _ ?_ ⟨i + 1, _, by omega, by omega, rfl, hD2, hF2, rfl, rfl⟩) ?_ ?_
              · omega
              · repeat (first | exact EnvLe.nil _ | refine EnvLe.cons rfl ?_)
              · repeat (first | exact Ent.refl _ | (apply Ent.cons; (· repeat (first | exact Pick.here | (refine Pick.sl ?_; (· repeat (first | exact List.Mem.head _ | assumption | apply List.Mem.tail))) | apply Pick.there))) | (refine Ent.trans (Ent.drop _ _) ?_))
    · skip
      refine RL.val (Wanted.free rfl) (V.pick_true rfl rfl rfl) rfl ?_
      refine RL.nil ?_
      refine SG.cond_false rfl ?_
      refine SG.exit rfl ?_
      refine SG.seq ?_
      refine SG.ent (Sl.nil (T := RTorn)) ?_
      have hlen := hD.len
      have hR := hD.restart (by omega) []
      have hRC := Dk.calm.restart D []
      have hR0 : (D.restart []).errOf 0 = 0 := hRC.errOf (by omega) (by rw [restart_len]; omega)
      have hr0 : ((D.restart []).read 0).2 = 0 := by unfold Dk.read; rw [if_pos hR0]
      refine SG.region ?_
      refine RL.val (Wanted.free rfl) (V.move rfl rfl) rfl ?_
      refine RL.eff (Wanted.free rfl) (E.call rfl go27 rfl (dRestart_ok hD (by repeat (first | exact Pick.here | assumption | apply Pick.there)) (ts := []) (by repeat (first | exact List.Mem.head _ | assumption | apply List.Mem.tail)) (by omega) (by omega))) rfl ?_
      rintro _ _ ⟨rfl, rfl⟩
      refine RL.nil ?_
      refine SG.seq ?_
      refine SG.region ?_
      refine RL.val (Wanted.free rfl) (V.move rfl rfl) rfl ?_
      refine RL.eff (Wanted.free rfl) (E.call rfl go21 rfl (dRead_ok hR (by repeat (first | exact Pick.here | assumption | apply Pick.there)) _ (by omega))) rfl ?_
      rintro _ _ ⟨a92, m92, c92, rfl, rfl⟩
      rw [hr0]
      refine RL.val (Wanted.free rfl) (V.move rfl rfl) rfl ?_
      refine RL.val (Wanted.free rfl) (V.extract rfl rfl rfl) rfl ?_
      refine RL.val (Wanted.free rfl) (V.extract rfl rfl rfl) rfl ?_
      refine RL.val (Wanted.free rfl) (V.assign rfl rfl) rfl ?_
      refine RL.val (Wanted.free rfl) (V.assign rfl rfl) rfl ?_
      refine RL.nil ?_
      refine SG.seq ?_
      refine SG.region ?_
      refine RL.val (Wanted.free rfl) (V.move rfl rfl) rfl ?_
      refine RL.eff (Wanted.free rfl) (E.call rfl go34 rfl (dOn_ok hR (by repeat (first | exact Pick.here | assumption | apply Pick.there)))) rfl ?_
      rintro _ _ ⟨rfl, rfl⟩
      refine RL.val (Wanted.free rfl) (V.move rfl rfl) rfl ?_
      refine RL.val (Wanted.yes rfl rfl rfl rfl) (V.move rfl rfl) rfl ?_
      refine RL.cmpT (Wanted.yes rfl rfl rfl rfl) (V.bin rfl rfl rfl B.eql) rfl rfl ?_
      refine RL.val (Wanted.free rfl) (V.pick_true rfl rfl rfl) rfl ?_
      refine RL.val (Wanted.free rfl) (V.move rfl rfl) rfl ?_
      refine RL.val (Wanted.yes rfl rfl rfl rfl) (V.move rfl rfl) rfl ?_
      refine RL.eff (Wanted.yes rfl rfl rfl rfl) (E.call rfl go30 rfl (dFlush_ok hR (by repeat (first | exact Pick.here | assumption | apply Pick.there)) (by omega))) rfl ?_
      rintro _ _ ⟨rfl, rfl⟩
      rw [hRC.flushE]
      refine RL.cmpT (Wanted.yes rfl rfl rfl rfl) (V.bin rfl rfl rfl B.eql) rfl rfl ?_
      refine RL.val (Wanted.free rfl) (V.pick_true rfl rfl rfl) rfl ?_
      refine RL.val (Wanted.free rfl) (V.move rfl rfl) rfl ?_
      refine RL.eff (Wanted.yes rfl rfl rfl rfl) (E.call rfl go17 rfl (lives_ok)) rfl ?_
      rintro _ _ ⟨rfl, rfl⟩
      refine RL.val (Wanted.free rfl) (V.pick_true rfl rfl rfl) rfl ?_
      refine RL.val (Wanted.free rfl) (V.assign rfl rfl) rfl ?_
      refine RL.nil ?_
      refine SG.retE (Ret.r1 Try.func6 rfl (.tmp rfl)) ?_ ⟨rfl, rfl⟩
      repeat (first | exact Ent.refl _ | (apply Ent.cons; (· repeat (first | exact Pick.here | (refine Pick.sl ?_; (· repeat (first | exact List.Mem.head _ | assumption | apply List.Mem.tail))) | apply Pick.there))) | (refine Ent.trans (Ent.drop _ _) ?_))
  · skip
    refine RL.val (Wanted.free rfl) (V.move rfl rfl) rfl ?_
    refine RL.skip (Wanted.no rfl rfl rfl rfl rfl) rfl ?_
    refine RL.skip (Wanted.no rfl rfl rfl rfl rfl) rfl ?_
    refine RL.val (Wanted.free rfl) (V.pick_false rfl rfl rfl) rfl ?_
    refine RL.nil ?_
    refine SG.cond_false rfl ?_
    refine SG.exit rfl ?_
    refine SG.seq ?_
    refine SG.ent (Sl.nil (T := RTorn)) ?_
    have hlen := hD.len
    have hR := hD.restart (by omega) []
    have hRC := Dk.calm.restart D []
    have hR0 : (D.restart []).errOf 0 = 0 := hRC.errOf (by omega) (by rw [restart_len]; omega)
    have hr0 : ((D.restart []).read 0).2 = 0 := by unfold Dk.read; rw [if_pos hR0]
    refine SG.region ?_
    refine RL.val (Wanted.free rfl) (V.move rfl rfl) rfl ?_
    refine RL.eff (Wanted.free rfl) (E.call rfl go27 rfl (dRestart_ok hD (by repeat (first | exact Pick.here | assumption | apply Pick.there)) (ts := []) (by repeat (first | exact List.Mem.head _ | assumption | apply List.Mem.tail)) (by omega) (by omega))) rfl ?_
    rintro _ _ ⟨rfl, rfl⟩
    refine RL.nil ?_
    refine SG.seq ?_
    refine SG.region ?_
    refine RL.val (Wanted.free rfl) (V.move rfl rfl) rfl ?_
    refine RL.eff (Wanted.free rfl) (E.call rfl go21 rfl (dRead_ok hR (by repeat (first | exact Pick.here | assumption | apply Pick.there)) _ (by omega))) rfl ?_
    rintro _ _ ⟨a92, m92, c92, rfl, rfl⟩
    rw [hr0]
    refine RL.val (Wanted.free rfl) (V.move rfl rfl) rfl ?_
    refine RL.val (Wanted.free rfl) (V.extract rfl rfl rfl) rfl ?_
    refine RL.val (Wanted.free rfl) (V.extract rfl rfl rfl) rfl ?_
    refine RL.val (Wanted.free rfl) (V.assign rfl rfl) rfl ?_
    refine RL.val (Wanted.free rfl) (V.assign rfl rfl) rfl ?_
    refine RL.nil ?_
    refine SG.seq ?_
    refine SG.region ?_
    refine RL.val (Wanted.free rfl) (V.move rfl rfl) rfl ?_
    refine RL.eff (Wanted.free rfl) (E.call rfl go34 rfl (dOn_ok hR (by repeat (first | exact Pick.here | assumption | apply Pick.there)))) rfl ?_
    rintro _ _ ⟨rfl, rfl⟩
    refine RL.val (Wanted.free rfl) (V.move rfl rfl) rfl ?_
    refine RL.val (Wanted.yes rfl rfl rfl rfl) (V.move rfl rfl) rfl ?_
    refine RL.cmpT (Wanted.yes rfl rfl rfl rfl) (V.bin rfl rfl rfl B.eql) rfl rfl ?_
    refine RL.val (Wanted.free rfl) (V.pick_true rfl rfl rfl) rfl ?_
    refine RL.val (Wanted.free rfl) (V.move rfl rfl) rfl ?_
    refine RL.val (Wanted.yes rfl rfl rfl rfl) (V.move rfl rfl) rfl ?_
    refine RL.eff (Wanted.yes rfl rfl rfl rfl) (E.call rfl go30 rfl (dFlush_ok hR (by repeat (first | exact Pick.here | assumption | apply Pick.there)) (by omega))) rfl ?_
    rintro _ _ ⟨rfl, rfl⟩
    rw [hRC.flushE]
    refine RL.cmpT (Wanted.yes rfl rfl rfl rfl) (V.bin rfl rfl rfl B.eql) rfl rfl ?_
    refine RL.val (Wanted.free rfl) (V.pick_true rfl rfl rfl) rfl ?_
    refine RL.val (Wanted.free rfl) (V.move rfl rfl) rfl ?_
    refine RL.eff (Wanted.yes rfl rfl rfl rfl) (E.call rfl go17 rfl (lives_ok)) rfl ?_
    rintro _ _ ⟨rfl, rfl⟩
    refine RL.val (Wanted.free rfl) (V.pick_true rfl rfl rfl) rfl ?_
    refine RL.val (Wanted.free rfl) (V.assign rfl rfl) rfl ?_
    refine RL.nil ?_
    refine SG.retE (Ret.r1 Try.func6 rfl (.tmp rfl)) ?_ ⟨rfl, rfl⟩
    repeat (first | exact Ent.refl _ | (apply Ent.cons; (· repeat (first | exact Pick.here | (refine Pick.sl ?_; (· repeat (first | exact List.Mem.head _ | assumption | apply List.Mem.tail))) | apply Pick.there))) | (refine Ent.trans (Ent.drop _ _) ?_))

end Go.Proofs.Yteghgfgkkpfcaaa
