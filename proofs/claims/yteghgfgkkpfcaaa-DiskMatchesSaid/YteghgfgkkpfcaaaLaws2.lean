/- The statement that the disk does what the reference does. -/
import Derived.Test.YteghgfgkkpfcaaaLaws1
namespace Go.Proofs.Yteghgfgkkpfcaaa
open Go.Wk Go.Dsk

set_option maxRecDepth 100000 in
theorem step_ok {κ : World} {L : List Assn} {L1 : List Assn} {b r : Nat} {D : Dk} {m0 : Nat} {o : OpD} {ab al0 : Option Addr} {mb cb ml cl : Nat} (hD : D.ok m0) (hp : Ent L (Dsk b D :: RDsk r D :: L1)) (hm0 : m0 ≤ 900000) (hm1 : 1 ≤ m0) (ho : o.ok) (h8 : Sl R8 ab mb cb o.b ∈ L1) (ht : Sl RTorn al0 ml cl o.l ∈ L1) :
    Ctr Try.prog 15 #[ptr b 0, ptr r 0, .agg [vI o.kind, vI o.k, vI o.n, .slice ab mb cb, .slice al0 ml cl].toArray] κ L (fun v M => ∃ b' r' D', v = .tuple #[ptr b' 0, ptr r' 0, vB true] ∧ D'.ok (m0 + 1) ∧ M = Dsk b' D' :: RDsk r' D' :: L1) := by
  refine Ctr.enter (vs := [ptr b 0, ptr r 0, .agg [vI o.kind, vI o.k, vI o.n, .slice ab mb cb, .slice al0 ml cl].toArray]) (m := 144) Try.func15 rfl rfl rfl ?_
  refine SG.ent hp ?_
  have hlen := hD.len
  obtain ⟨ho1, ho2, ho3⟩ := ho
  unfold inInt at ho1 ho2 ho3
  refine SG.seq ?_
  refine SG.region ?_
  refine RL.eff (Wanted.free rfl) (E.box [vI o.kind, vI o.k, vI o.n, .slice ab mb cb, .slice al0 ml cl] rfl rfl rfl) rfl ?_
  rintro _ _ ⟨b5, rfl, rfl⟩
  refine RL.val (Wanted.free rfl) (V.assign rfl rfl) rfl ?_
  refine RL.val (Wanted.free rfl) (V.assign rfl rfl) rfl ?_
  refine RL.val (Wanted.free rfl) (V.assign rfl rfl) rfl ?_
  refine RL.nil ?_
  refine SG.seq ?_
  refine SG.region ?_
  refine RL.val (Wanted.free rfl) (V.assign rfl rfl) rfl ?_
  refine RL.nil ?_
  refine SG.seq ?_
  refine SG.seq ?_
  refine SG.region ?_
  refine RL.val (Wanted.free rfl) (V.fieldAddr rfl rfl fo35_0) rfl ?_
  refine RL.val (Wanted.free rfl) (V.load rfl on3 rfl (by repeat (first | exact Pick.here | assumption | apply Pick.there)) rfl) rfl ?_
  refine RL.nil ?_
  refine SG.join (ι := Dk) (fun D2 => [(0, ptr b 0), (1, ptr r 0), (9, vB true)]) (fun D2 => Dsk b D2 :: RDsk r D2 :: L1) (fun D2 => D2.ok (m0 + 1)) ?_ (fun rest => ?_)
  · rintro D2 hD2
    try dsimp only
    refine SG.seq ?_
    refine SG.openR (b := r) (by repeat (first | exact Pick.here | assumption | apply Pick.there)) fun ad c => ?_
    refine SG.drawL 26 26 wide rfl rfl ?_
    refine RH.val 0 rfl (by kernel_rfl) (by kernel_rfl) (by kernel_rfl) (by kernel_rfl) (Wanted.free rfl) (V.move rfl rfl) rfl ?_
    refine RH.val 1 rfl (by kernel_rfl) (by kernel_rfl) (by kernel_rfl) (by kernel_rfl) (Wanted.free rfl) (V.move rfl rfl) rfl ?_
    refine RH.val 2 rfl (by kernel_rfl) (by kernel_rfl) (by kernel_rfl) (by kernel_rfl) (Wanted.free rfl) (V.move rfl rfl) rfl ?_
    refine RH.val 3 rfl (by kernel_rfl) (by kernel_rfl) (by kernel_rfl) (by kernel_rfl) (Wanted.free rfl) (V.move rfl rfl) rfl ?_
    refine RH.val 4 rfl (by kernel_rfl) (by kernel_rfl) (by kernel_rfl) (by kernel_rfl) (Wanted.yes rfl rfl rfl rfl) (V.move rfl rfl) rfl ?_
    refine RH.val 6 rfl (by kernel_rfl) (by kernel_rfl) (by kernel_rfl) (by kernel_rfl) (Wanted.yes rfl rfl rfl rfl) (V.move rfl rfl) rfl ?_
    refine RH.val 7 rfl (by kernel_rfl) (by kernel_rfl) (by kernel_rfl) (by kernel_rfl) (Wanted.yes rfl rfl rfl rfl) (V.nilCheck rfl rfl) rfl ?_
    refine RH.val 8 rfl (by kernel_rfl) (by kernel_rfl) (by kernel_rfl) (by kernel_rfl) (Wanted.yes rfl rfl rfl rfl) (V.fieldAddr rfl rfl fo87_1) rfl ?_
    refine RH.val 9 rfl (by kernel_rfl) (by kernel_rfl) (by kernel_rfl) (by kernel_rfl) (Wanted.yes rfl rfl rfl rfl) (V.load rfl on4 rfl (by repeat (first | exact Pick.here | assumption | apply Pick.there)) rfl) rfl ?_
    refine RH.pure 10 rfl (by kernel_rfl) (by kernel_rfl) (by kernel_rfl) (by kernel_rfl) (Wanted.yes rfl rfl rfl rfl) (V.not rfl rfl) rfl ?_
    refine RH.one (i := 5) (by kernel_rfl) ?_
    refine RHone.eff rfl (Wanted.yes rfl rfl rfl rfl) (E.call rfl go34 rfl (dOn_ok hD2 (by repeat (first | exact Pick.here | assumption | apply Pick.there)))) rfl ?_
    rintro _ _ ⟨rfl, rfl⟩
    refine ⟨.inr (by repeat (first | exact Ent.refl _ | (apply Ent.cons; (· repeat (first | exact Pick.here | (refine Pick.sl ?_; (· repeat (first | exact List.Mem.head _ | assumption | apply List.Mem.tail))) | apply Pick.there))) | (refine Ent.trans (Ent.drop _ _) ?_))), ?_⟩
    refine RH.cmpT 11 rfl (by kernel_rfl) (by kernel_rfl) (by kernel_rfl) (by kernel_rfl) (Wanted.yes rfl rfl rfl rfl) (V.eqlBool rfl ub4 rfl rfl) rfl rfl ?_
    refine RH.pure 12 rfl (by kernel_rfl) (by kernel_rfl) (by kernel_rfl) (by kernel_rfl) (Wanted.free rfl) (V.pick_true rfl rfl rfl) rfl ?_
    refine RH.val 13 rfl (by kernel_rfl) (by kernel_rfl) (by kernel_rfl) (by kernel_rfl) (Wanted.free rfl) (V.move rfl rfl) rfl ?_
    refine RH.val 14 rfl (by kernel_rfl) (by kernel_rfl) (by kernel_rfl) (by kernel_rfl) (Wanted.yes rfl rfl rfl rfl) (V.move rfl rfl) rfl ?_
    refine RH.val 16 rfl (by kernel_rfl) (by kernel_rfl) (by kernel_rfl) (by kernel_rfl) (Wanted.yes rfl rfl rfl rfl) (V.move rfl rfl) rfl ?_
    refine RH.val 17 rfl (by kernel_rfl) (by kernel_rfl) (by kernel_rfl) (by kernel_rfl) (Wanted.yes rfl rfl rfl rfl) (V.nilCheck rfl rfl) rfl ?_
    refine RH.val 18 rfl (by kernel_rfl) (by kernel_rfl) (by kernel_rfl) (by kernel_rfl) (Wanted.yes rfl rfl rfl rfl) (V.fieldAddr rfl rfl fo87_0) rfl ?_
    refine RH.val 19 rfl (by kernel_rfl) (by kernel_rfl) (by kernel_rfl) (by kernel_rfl) (Wanted.yes rfl rfl rfl rfl) (V.load rfl on53 rfl (by repeat (first | exact Pick.here | assumption | apply Pick.there)) rfl) rfl ?_
    refine RH.val 20 rfl (by kernel_rfl) (by kernel_rfl) (by kernel_rfl) (by kernel_rfl) (Wanted.yes rfl rfl rfl rfl) (V.len rfl rfl el53.under rfl) rfl ?_
    refine RH.one (i := 15) (by kernel_rfl) ?_
    refine RHone.eff rfl (Wanted.yes rfl rfl rfl rfl) (E.call rfl go20 rfl (dLen_ok hD2 (by repeat (first | exact Pick.here | assumption | apply Pick.there)))) rfl ?_
    rintro _ _ ⟨rfl, rfl⟩
    refine ⟨.inr (by repeat (first | exact Ent.refl _ | (apply Ent.cons; (· repeat (first | exact Pick.here | (refine Pick.sl ?_; (· repeat (first | exact List.Mem.head _ | assumption | apply List.Mem.tail))) | apply Pick.there))) | (refine Ent.trans (Ent.drop _ _) ?_))), ?_⟩
    refine RH.cmpT 21 rfl (by kernel_rfl) (by kernel_rfl) (by kernel_rfl) (by kernel_rfl) (Wanted.yes rfl rfl rfl rfl) (V.bin rfl rfl rfl B.eql) rfl rfl ?_
    refine RH.pure 22 rfl (by kernel_rfl) (by kernel_rfl) (by kernel_rfl) (by kernel_rfl) (Wanted.free rfl) (V.pick_true rfl rfl rfl) rfl ?_
    refine RH.val 23 rfl (by kernel_rfl) (by kernel_rfl) (by kernel_rfl) (by kernel_rfl) (Wanted.free rfl) (V.assign rfl rfl) rfl ?_
    refine RH.val 24 rfl (by kernel_rfl) (by kernel_rfl) (by kernel_rfl) (by kernel_rfl) (Wanted.free rfl) (V.assign rfl rfl) rfl ?_
    refine RH.val 25 rfl (by kernel_rfl) (by kernel_rfl) (by kernel_rfl) (by kernel_rfl) (Wanted.free rfl) (V.assign rfl rfl) rfl ?_
    refine RH.done (by kernel_rfl) ?_
    refine SG.retE (Ret.r3 Try.func15 rfl (.tmp rfl) (.tmp rfl) (.tmp rfl)) ?_ ⟨_, _, _, rfl, hD2, rfl⟩
    refine Ent.cons (by repeat (first | exact Pick.here | assumption | apply Pick.there)) ?_
    refine RDsk.ent (ad := ad) (c := c) ?_
    repeat (first | exact Ent.refl _ | (apply Ent.cons; (· repeat (first | exact Pick.here | (refine Pick.sl ?_; (· repeat (first | exact List.Mem.head _ | assumption | apply List.Mem.tail))) | apply Pick.there))) | (refine Ent.trans (Ent.drop _ _) ?_))
  · skip
    refine SG.block ?_
    refine SG.seq ?_
    refine SG.region ?_
    refine RL.cmp (Wanted.free rfl) (V.bin rfl rfl rfl B.eql) rfl (fun h29 => ?_) (fun h29 => ?_)
    · skip
      refine RL.val (Wanted.free rfl) (V.assign rfl rfl) rfl ?_
      refine RL.nil ?_
      refine SG.cond_true rfl ?_
      refine SG.seq ?_
      refine SG.region ?_
      refine RL.val (Wanted.free rfl) (V.fieldAddr rfl rfl fo35_3) rfl ?_
      refine RL.val (Wanted.free rfl) (V.load rfl on32 rfl (by repeat (first | exact Pick.here | assumption | apply Pick.there)) rfl) rfl ?_
      refine RL.eff (Wanted.free rfl) (E.call rfl go33 rfl (few_ok (a := ab) (by repeat (first | exact List.Mem.head _ | assumption | apply List.Mem.tail)) (by decide) (by decide))) rfl ?_
      rintro _ _ ⟨a47, k47, c47, rfl, rfl⟩
      refine RL.publish (T := R8) (a := a47) Pick.here ?_
      refine RL.val (Wanted.free rfl) (V.assign rfl rfl) rfl ?_
      refine RL.nil ?_
      refine SG.drawN 12 12 (Blk b5 35 [vI o.kind, vI o.k, vI o.n, .slice ab mb cb, .slice al0 ml cl] :: L1) wide rfl rfl (by repeat (first | exact Ent.refl _ | (apply Ent.cons; (· repeat (first | exact Pick.here | (refine Pick.sl ?_; (· repeat (first | exact List.Mem.head _ | assumption | apply List.Mem.tail))) | apply Pick.there))) | (refine Ent.trans (Ent.drop _ _) ?_))) ?_
      refine RH.val 0 rfl (by kernel_rfl) (by kernel_rfl) (by kernel_rfl) (by kernel_rfl) (Wanted.free rfl) (V.move rfl rfl) rfl ?_
      refine RH.val 1 rfl (by kernel_rfl) (by kernel_rfl) (by kernel_rfl) (by kernel_rfl) (Wanted.free rfl) (V.fieldAddr rfl rfl fo35_1) rfl ?_
      refine RH.val 2 rfl (by kernel_rfl) (by kernel_rfl) (by kernel_rfl) (by kernel_rfl) (Wanted.free rfl) (V.load rfl on3 rfl (by repeat (first | exact Pick.here | assumption | apply Pick.there)) rfl) rfl ?_
      refine RH.val 3 rfl (by kernel_rfl) (by kernel_rfl) (by kernel_rfl) (by kernel_rfl) (Wanted.free rfl) (V.move rfl rfl) rfl ?_
      refine RH.val 5 rfl (by kernel_rfl) (by kernel_rfl) (by kernel_rfl) (by kernel_rfl) (Wanted.free rfl) (V.move rfl rfl) rfl ?_
      refine RH.val 6 rfl (by kernel_rfl) (by kernel_rfl) (by kernel_rfl) (by kernel_rfl) (Wanted.free rfl) (V.fieldAddr rfl rfl fo35_1) rfl ?_
      refine RH.val 7 rfl (by kernel_rfl) (by kernel_rfl) (by kernel_rfl) (by kernel_rfl) (Wanted.free rfl) (V.load rfl on3 rfl (by repeat (first | exact Pick.here | assumption | apply Pick.there)) rfl) rfl ?_
      refine RH.val 8 rfl (by kernel_rfl) (by kernel_rfl) (by kernel_rfl) (by kernel_rfl) (Wanted.free rfl) (V.move rfl rfl) rfl ?_
      refine RH.one (i := 4) (by kernel_rfl) ?_
      refine RHone.eff rfl (Wanted.free rfl) (E.call rfl go31 rfl (dWrite_ok hD (by repeat (first | exact Pick.here | assumption | apply Pick.there)) _ (s := o.b.take (Int.toNat 70)) (by repeat (first | exact List.Mem.head _ | assumption | apply List.Mem.tail)) (by omega))) rfl ?_
      rintro _ _ ⟨rfl, rfl⟩
      refine ⟨.inr (by repeat (first | exact Ent.refl _ | (apply Ent.cons; (· repeat (first | exact Pick.here | (refine Pick.sl ?_; (· repeat (first | exact List.Mem.head _ | assumption | apply List.Mem.tail))) | apply Pick.there))) | (refine Ent.trans (Ent.drop _ _) ?_))), ?_⟩
      refine RH.one (i := 9) (by kernel_rfl) ?_
      refine RHone.eff rfl (Wanted.free rfl) (E.call rfl go46 rfl (rWrite_ok hD (by repeat (first | exact Pick.here | assumption | apply Pick.there)) _ (s := o.b.take (Int.toNat 70)) (by repeat (first | exact List.Mem.head _ | assumption | apply List.Mem.tail)) (by omega))) rfl ?_
      rintro _ _ ⟨rfl, rfl⟩
      refine ⟨.inr (by repeat (first | exact Ent.refl _ | (apply Ent.cons; (· repeat (first | exact Pick.here | (refine Pick.sl ?_; (· repeat (first | exact List.Mem.head _ | assumption | apply List.Mem.tail))) | apply Pick.there))) | (refine Ent.trans (Ent.drop _ _) ?_))), ?_⟩
      refine RH.cmpT 10 rfl (by kernel_rfl) (by kernel_rfl) (by kernel_rfl) (by kernel_rfl) (Wanted.free rfl) (V.bin rfl rfl rfl B.eql) rfl rfl ?_
      refine RH.val 11 rfl (by kernel_rfl) (by kernel_rfl) (by kernel_rfl) (by kernel_rfl) (Wanted.free rfl) (V.assign rfl rfl) rfl ?_
      refine RH.done (by kernel_rfl) ?_
      refine SG.inBlock ?_
      refine SG.weaken (rest (D.write o.k (o.b.take (Int.toNat 70))) (hD.write _ _)) ?_ ?_
      · repeat (first | exact EnvLe.nil _ | refine EnvLe.cons rfl ?_)
      · repeat (first | exact Ent.refl _ | (apply Ent.cons; (· repeat (first | exact Pick.here | (refine Pick.sl ?_; (· repeat (first | exact List.Mem.head _ | assumption | apply List.Mem.tail))) | apply Pick.there))) | (refine Ent.trans (Ent.drop _ _) ?_))
    · skip
      refine RL.val (Wanted.free rfl) (V.assign rfl rfl) rfl ?_
      refine RL.nil ?_
      refine SG.cond_false rfl ?_
      refine SG.seq ?_
      refine SG.region ?_
      refine RL.cmp (Wanted.free rfl) (V.bin rfl rfl rfl B.eql) rfl (fun h47 => ?_) (fun h47 => ?_)
      · skip
        refine RL.val (Wanted.free rfl) (V.assign rfl rfl) rfl ?_
        refine RL.nil ?_
        refine SG.cond_true rfl ?_
        refine SG.seq ?_
        refine SG.region ?_
        refine RL.val (Wanted.free rfl) (V.move rfl rfl) rfl ?_
        refine RL.val (Wanted.free rfl) (V.fieldAddr rfl rfl fo35_1) rfl ?_
        refine RL.val (Wanted.free rfl) (V.load rfl on3 rfl (by repeat (first | exact Pick.here | assumption | apply Pick.there)) rfl) rfl ?_
        refine RL.eff (Wanted.free rfl) (E.call rfl go21 rfl (dRead_ok hD (by repeat (first | exact Pick.here | assumption | apply Pick.there)) _ (by omega))) rfl ?_
        rintro _ _ ⟨a65, m65, c65, rfl, rfl⟩
        refine RL.val (Wanted.free rfl) (V.move rfl rfl) rfl ?_
        refine RL.val (Wanted.free rfl) (V.extract rfl rfl rfl) rfl ?_
        refine RL.val (Wanted.free rfl) (V.extract rfl rfl rfl) rfl ?_
        refine RL.val (Wanted.free rfl) (V.assign rfl rfl) rfl ?_
        refine RL.val (Wanted.free rfl) (V.assign rfl rfl) rfl ?_
        refine RL.nil ?_
        refine SG.seq ?_
        refine SG.region ?_
        refine RL.val (Wanted.free rfl) (V.move rfl rfl) rfl ?_
        refine RL.val (Wanted.free rfl) (V.fieldAddr rfl rfl fo35_1) rfl ?_
        refine RL.val (Wanted.free rfl) (V.load rfl on3 rfl (by repeat (first | exact Pick.here | assumption | apply Pick.there)) rfl) rfl ?_
        refine RL.eff (Wanted.free rfl) (E.call rfl go47 rfl (rRead_ok hD (by repeat (first | exact Pick.here | assumption | apply Pick.there)) _ (by omega))) rfl ?_
        rintro _ _ ⟨a72, m72, c72, rfl, rfl⟩
        refine RL.val (Wanted.free rfl) (V.move rfl rfl) rfl ?_
        refine RL.val (Wanted.free rfl) (V.extract rfl rfl rfl) rfl ?_
        refine RL.val (Wanted.free rfl) (V.extract rfl rfl rfl) rfl ?_
        refine RL.val (Wanted.free rfl) (V.assign rfl rfl) rfl ?_
        refine RL.val (Wanted.free rfl) (V.assign rfl rfl) rfl ?_
        refine RL.nil ?_
        refine SG.region ?_
        refine RL.val (Wanted.free rfl) (V.move rfl rfl) rfl ?_
        refine RL.val (Wanted.free rfl) (V.move rfl rfl) rfl ?_
        refine RL.eff (Wanted.free rfl) (E.call rfl go22 rfl (sameBytes_true (m := m65) (m' := m72) (by first | (apply Seen.sl; (· repeat (first | exact List.Mem.head _ | assumption | apply List.Mem.tail))) | (apply Seen.buf; (· repeat (first | exact Pick.here | apply Pick.there)))) (by first | (apply Seen.sl; (· repeat (first | exact List.Mem.head _ | assumption | apply List.Mem.tail))) | (apply Seen.buf; (· repeat (first | exact Pick.here | apply Pick.there)))) rfl)) rfl ?_
        rintro _ _ ⟨rfl, rfl⟩
        refine RL.val (Wanted.free rfl) (V.move rfl rfl) rfl ?_
        refine RL.val (Wanted.yes rfl rfl rfl rfl) (V.move rfl rfl) rfl ?_
        refine RL.val (Wanted.yes rfl rfl rfl rfl) (V.move rfl rfl) rfl ?_
        refine RL.cmpT (Wanted.yes rfl rfl rfl rfl) (V.bin rfl rfl rfl B.eql) rfl rfl ?_
        refine RL.val (Wanted.free rfl) (V.pick_true rfl rfl rfl) rfl ?_
        refine RL.val (Wanted.free rfl) (V.assign rfl rfl) rfl ?_
        refine RL.nil ?_
        refine SG.inBlock ?_
        refine SG.weaken (rest D (hD.mono (by omega))) ?_ ?_
        · repeat (first | exact EnvLe.nil _ | refine EnvLe.cons rfl ?_)
        · repeat (first | exact Ent.refl _ | (apply Ent.cons; (· repeat (first | exact Pick.here | (refine Pick.sl ?_; (· repeat (first | exact List.Mem.head _ | assumption | apply List.Mem.tail))) | apply Pick.there))) | (refine Ent.trans (Ent.drop _ _) ?_))
      · skip
        refine RL.val (Wanted.free rfl) (V.assign rfl rfl) rfl ?_
        refine RL.nil ?_
        refine SG.cond_false rfl ?_
        refine SG.seq ?_
        refine SG.region ?_
        refine RL.cmp (Wanted.free rfl) (V.bin rfl rfl rfl B.eql) rfl (fun h75 => ?_) (fun h75 => ?_)
        · skip
          refine RL.val (Wanted.free rfl) (V.assign rfl rfl) rfl ?_
          refine RL.nil ?_
          refine SG.cond_true rfl ?_
          refine SG.region ?_
          refine RL.val (Wanted.free rfl) (V.move rfl rfl) rfl ?_
          refine RL.eff (Wanted.free rfl) (E.call rfl go30 rfl (dFlush_ok hD (by repeat (first | exact Pick.here | assumption | apply Pick.there)) (by omega))) rfl ?_
          rintro _ _ ⟨rfl, rfl⟩
          refine RL.val (Wanted.free rfl) (V.move rfl rfl) rfl ?_
          refine RL.eff (Wanted.free rfl) (E.call rfl go48 rfl (rFlush_ok hD (by repeat (first | exact Pick.here | assumption | apply Pick.there)) (by omega))) rfl ?_
          rintro _ _ ⟨rfl, rfl⟩
          refine RL.cmpT (Wanted.free rfl) (V.bin rfl rfl rfl B.eql) rfl rfl ?_
          refine RL.val (Wanted.free rfl) (V.assign rfl rfl) rfl ?_
          refine RL.nil ?_
          refine SG.inBlock ?_
          refine SG.weaken (rest D.flush ((hD.flush hm1).mono (by omega))) ?_ ?_
          · repeat (first | exact EnvLe.nil _ | refine EnvLe.cons rfl ?_)
          · repeat (first | exact Ent.refl _ | (apply Ent.cons; (· repeat (first | exact Pick.here | (refine Pick.sl ?_; (· repeat (first | exact List.Mem.head _ | assumption | apply List.Mem.tail))) | apply Pick.there))) | (refine Ent.trans (Ent.drop _ _) ?_))
        · skip
          refine RL.val (Wanted.free rfl) (V.assign rfl rfl) rfl ?_
          refine RL.nil ?_
          refine SG.cond_false rfl ?_
          refine SG.seq ?_
          refine SG.region ?_
          refine RL.cmp (Wanted.free rfl) (V.bin rfl rfl rfl B.eql) rfl (fun h83 => ?_) (fun h83 => ?_)
          · skip
            refine RL.val (Wanted.free rfl) (V.assign rfl rfl) rfl ?_
            refine RL.nil ?_
            refine SG.cond_true rfl ?_
            refine SG.seq ?_
            refine SG.region ?_
            refine RL.val (Wanted.free rfl) (V.move rfl rfl) rfl ?_
            refine RL.val (Wanted.free rfl) (V.fieldAddr rfl rfl fo35_2) rfl ?_
            refine RL.val (Wanted.free rfl) (V.load rfl on3 rfl (by repeat (first | exact Pick.here | assumption | apply Pick.there)) rfl) rfl ?_
            refine RL.eff (Wanted.free rfl) (E.call rfl go29 rfl (dFuse_ok hD (by repeat (first | exact Pick.here | assumption | apply Pick.there)) _ (by omega) (by omega))) rfl ?_
            rintro _ _ ⟨rfl, rfl⟩
            refine RL.nil ?_
            refine SG.region ?_
            refine RL.val (Wanted.free rfl) (V.move rfl rfl) rfl ?_
            refine RL.val (Wanted.free rfl) (V.fieldAddr rfl rfl fo35_2) rfl ?_
            refine RL.val (Wanted.free rfl) (V.load rfl on3 rfl (by repeat (first | exact Pick.here | assumption | apply Pick.there)) rfl) rfl ?_
            refine RL.eff (Wanted.free rfl) (E.call rfl go49 rfl (rBlow_ok hD (by repeat (first | exact Pick.here | assumption | apply Pick.there)) _ (by omega) (by omega))) rfl ?_
            rintro _ _ ⟨rfl, rfl⟩
            refine RL.nil ?_
            refine SG.inBlock ?_
            refine SG.weaken (rest (D.blow o.n) ((hD.blow ho3.2).mono (by omega))) ?_ ?_
            · repeat (first | exact EnvLe.nil _ | refine EnvLe.cons rfl ?_)
            · repeat (first | exact Ent.refl _ | (apply Ent.cons; (· repeat (first | exact Pick.here | (refine Pick.sl ?_; (· repeat (first | exact List.Mem.head _ | assumption | apply List.Mem.tail))) | apply Pick.there))) | (refine Ent.trans (Ent.drop _ _) ?_))
          · skip
            refine RL.val (Wanted.free rfl) (V.assign rfl rfl) rfl ?_
            refine RL.nil ?_
            refine SG.cond_false rfl ?_
            refine SG.seq ?_
            refine SG.region ?_
            refine RL.cmp (Wanted.free rfl) (V.bin rfl rfl rfl B.eql) rfl (fun h94 => ?_) (fun h94 => ?_)
            · skip
              refine RL.val (Wanted.free rfl) (V.assign rfl rfl) rfl ?_
              refine RL.nil ?_
              refine SG.cond_true rfl ?_
              refine SG.seq ?_
              refine SG.region ?_
              refine RL.val (Wanted.free rfl) (V.move rfl rfl) rfl ?_
              refine RL.val (Wanted.free rfl) (V.fieldAddr rfl rfl fo35_4) rfl ?_
              refine RL.val (Wanted.free rfl) (V.load rfl on33 rfl (by repeat (first | exact Pick.here | assumption | apply Pick.there)) rfl) rfl ?_
              refine RL.eff (Wanted.free rfl) (E.call rfl go27 rfl (dRestart_ok hD (by repeat (first | exact Pick.here | assumption | apply Pick.there)) (ts := o.l) (by repeat (first | exact List.Mem.head _ | assumption | apply List.Mem.tail)) hm1 (by omega))) rfl ?_
              rintro _ _ ⟨rfl, rfl⟩
              refine RL.nil ?_
              refine SG.region ?_
              refine RL.val (Wanted.free rfl) (V.move rfl rfl) rfl ?_
              refine RL.val (Wanted.free rfl) (V.fieldAddr rfl rfl fo35_4) rfl ?_
              refine RL.val (Wanted.free rfl) (V.load rfl on33 rfl (by repeat (first | exact Pick.here | assumption | apply Pick.there)) rfl) rfl ?_
              refine RL.eff (Wanted.free rfl) (E.call rfl go50 rfl (rRestart_ok hD (by repeat (first | exact Pick.here | assumption | apply Pick.there)) (ts := o.l) (by repeat (first | exact List.Mem.head _ | assumption | apply List.Mem.tail)) hm1 (by omega))) rfl ?_
              rintro _ _ ⟨rfl, rfl⟩
              refine RL.nil ?_
              refine SG.inBlock ?_
              refine SG.weaken (rest (D.restart o.l) ((hD.restart hm1 _).mono (by omega))) ?_ ?_
              · repeat (first | exact EnvLe.nil _ | refine EnvLe.cons rfl ?_)
              · repeat (first | exact Ent.refl _ | (apply Ent.cons; (· repeat (first | exact Pick.here | (refine Pick.sl ?_; (· repeat (first | exact List.Mem.head _ | assumption | apply List.Mem.tail))) | apply Pick.there))) | (refine Ent.trans (Ent.drop _ _) ?_))
            · skip
              refine RL.val (Wanted.free rfl) (V.assign rfl rfl) rfl ?_
              refine RL.nil ?_
              refine SG.cond_false rfl ?_
              refine SG.seq ?_
              refine SG.region ?_
              refine RL.cmp (Wanted.free rfl) (V.bin rfl rfl rfl B.eql) rfl (fun h105 => ?_) (fun h105 => ?_)
              · skip
                refine RL.val (Wanted.free rfl) (V.assign rfl rfl) rfl ?_
                refine RL.nil ?_
                refine SG.cond_true rfl ?_
                refine SG.seq ?_
                refine SG.region ?_
                refine RL.val (Wanted.free rfl) (V.move rfl rfl) rfl ?_
                refine RL.eff (Wanted.free rfl) (E.call rfl go37 rfl (dClone_ok hD (by repeat (first | exact Pick.here | assumption | apply Pick.there)) (by omega))) rfl ?_
                rintro _ _ ⟨b113, rfl, rfl⟩
                refine RL.val (Wanted.free rfl) (V.assign rfl rfl) rfl ?_
                refine RL.nil ?_
                refine SG.seq ?_
                refine SG.seq ?_
                refine SG.region ?_
                refine RL.val (Wanted.free rfl) (V.move rfl rfl) rfl ?_
                refine RL.cmpF (Wanted.free rfl) (V.eqlPtrNil rfl up23 rfl rfl) rfl (by simp) ?_
                refine RL.nil ?_
                refine SG.cond_false rfl ?_
                refine SG.skip ?_
                refine SG.seq ?_
                refine SG.region ?_
                refine RL.val (Wanted.free rfl) (V.move rfl rfl) rfl ?_
                refine RL.val (Wanted.free rfl) (V.move rfl rfl) rfl ?_
                refine RL.eff (Wanted.free rfl) (E.call rfl go51 rfl (rClone_ok hD (by repeat (first | exact Pick.here | assumption | apply Pick.there)) (by omega))) rfl ?_
                rintro _ _ ⟨b120, rfl, rfl⟩
                refine RL.val (Wanted.free rfl) (V.assign rfl rfl) rfl ?_
                refine RL.val (Wanted.free rfl) (V.assign rfl rfl) rfl ?_
                refine RL.val (Wanted.free rfl) (V.assign rfl rfl) rfl ?_
                refine RL.nil ?_
                refine SG.retE (Ret.r3 Try.func15 rfl (.tmp rfl) (.tmp rfl) (.tmp rfl)) ?_ ⟨_, _, D, rfl, hD.mono (by omega), rfl⟩
                repeat (first | exact Ent.refl _ | (apply Ent.cons; (· repeat (first | exact Pick.here | (refine Pick.sl ?_; (· repeat (first | exact List.Mem.head _ | assumption | apply List.Mem.tail))) | apply Pick.there))) | (refine Ent.trans (Ent.drop _ _) ?_))
              · skip
                refine RL.val (Wanted.free rfl) (V.assign rfl rfl) rfl ?_
                refine RL.nil ?_
                refine SG.cond_false rfl ?_
                refine SG.seq ?_
                refine SG.openR (b := r) (by repeat (first | exact Pick.here | assumption | apply Pick.there)) fun ad c => ?_
                obtain ⟨kk, hkk, hkk2⟩ := aroundV_nat (n := o.k) (most := (D.S.length : Int)) (by omega)
                refine SG.drawL 9 9 wide rfl rfl ?_
                refine RH.val 0 rfl (by kernel_rfl) (by kernel_rfl) (by kernel_rfl) (by kernel_rfl) (Wanted.free rfl) (V.fieldAddr rfl rfl fo35_1) rfl ?_
                refine RH.val 1 rfl (by kernel_rfl) (by kernel_rfl) (by kernel_rfl) (by kernel_rfl) (Wanted.free rfl) (V.load rfl on3 rfl (by repeat (first | exact Pick.here | assumption | apply Pick.there)) rfl) rfl ?_
                refine RH.val 2 rfl (by kernel_rfl) (by kernel_rfl) (by kernel_rfl) (by kernel_rfl) (Wanted.free rfl) (V.move rfl rfl) rfl ?_
                refine RH.val 3 rfl (by kernel_rfl) (by kernel_rfl) (by kernel_rfl) (by kernel_rfl) (Wanted.free rfl) (V.nilCheck rfl rfl) rfl ?_
                refine RH.val 4 rfl (by kernel_rfl) (by kernel_rfl) (by kernel_rfl) (by kernel_rfl) (Wanted.free rfl) (V.fieldAddr rfl rfl fo87_0) rfl ?_
                refine RH.val 5 rfl (by kernel_rfl) (by kernel_rfl) (by kernel_rfl) (by kernel_rfl) (Wanted.free rfl) (V.load rfl on53 rfl (by repeat (first | exact Pick.here | assumption | apply Pick.there)) rfl) rfl ?_
                refine RH.val 6 rfl (by kernel_rfl) (by kernel_rfl) (by kernel_rfl) (by kernel_rfl) (Wanted.free rfl) (V.len rfl rfl el53.under rfl) rfl ?_
                refine RH.one (i := 7) (by kernel_rfl) ?_
                refine RHone.eff rfl (Wanted.free rfl) (E.call rfl go14 rfl (around_ok _ _ (by omega) (by omega) (by omega))) rfl ?_
                rintro _ _ ⟨rfl, rfl⟩
                refine ⟨.inr (by repeat (first | exact Ent.refl _ | (apply Ent.cons; (· repeat (first | exact Pick.here | (refine Pick.sl ?_; (· repeat (first | exact List.Mem.head _ | assumption | apply List.Mem.tail))) | apply Pick.there))) | (refine Ent.trans (Ent.drop _ _) ?_))), ?_⟩
                rw [hkk]
                refine RH.val 8 rfl (by kernel_rfl) (by kernel_rfl) (by kernel_rfl) (by kernel_rfl) (Wanted.free rfl) (V.assign rfl rfl) rfl ?_
                refine RH.done (by kernel_rfl) ?_
                refine SG.seq ?_
                refine SG.ent (?_ : Ent _ (Dsk b D :: RDsk r D :: Blk b5 35 [vI o.kind, vI o.k, vI o.n, .slice ab mb cb, .slice al0 ml cl] :: L1)) ?_
                · refine Ent.cons (by repeat (first | exact Pick.here | assumption | apply Pick.there)) ?_
                  refine RDsk.ent (ad := ad) (c := c) ?_
                  repeat (first | exact Ent.refl _ | (apply Ent.cons; (· repeat (first | exact Pick.here | (refine Pick.sl ?_; (· repeat (first | exact List.Mem.head _ | assumption | apply List.Mem.tail))) | apply Pick.there))) | (refine Ent.trans (Ent.drop _ _) ?_))
                refine SG.drawL 7 7 wide rfl rfl ?_
                refine RH.val 0 rfl (by kernel_rfl) (by kernel_rfl) (by kernel_rfl) (by kernel_rfl) (Wanted.free rfl) (V.fieldAddr rfl rfl fo35_3) rfl ?_
                refine RH.val 1 rfl (by kernel_rfl) (by kernel_rfl) (by kernel_rfl) (by kernel_rfl) (Wanted.free rfl) (V.load rfl on32 rfl (by repeat (first | exact Pick.here | assumption | apply Pick.there)) rfl) rfl ?_
                refine RH.val 3 rfl (by kernel_rfl) (by kernel_rfl) (by kernel_rfl) (by kernel_rfl) (Wanted.free rfl) (V.fieldAddr rfl rfl fo35_2) rfl ?_
                refine RH.val 4 rfl (by kernel_rfl) (by kernel_rfl) (by kernel_rfl) (by kernel_rfl) (Wanted.free rfl) (V.load rfl on3 rfl (by repeat (first | exact Pick.here | assumption | apply Pick.there)) rfl) rfl ?_
                refine RH.one (i := 2) (by kernel_rfl) ?_
                refine RHone.eff rfl (Wanted.free rfl) (E.call rfl go33 rfl (few_ok (a := ab) (by repeat (first | exact List.Mem.head _ | assumption | apply List.Mem.tail)) (by decide) (by decide))) rfl ?_
                rintro _ _ ⟨a30, k30, c30, rfl, rfl⟩
                refine ⟨.inr (by repeat (first | exact Ent.refl _ | (apply Ent.cons; (· repeat (first | exact Pick.here | (refine Pick.sl ?_; (· repeat (first | exact List.Mem.head _ | assumption | apply List.Mem.tail))) | apply Pick.there))) | (refine Ent.trans (Ent.drop _ _) ?_))), ?_⟩
                refine RH.publish (T := R8) (a := a30) Pick.here ?_
                refine RH.one (i := 5) (by kernel_rfl) ?_
                refine RHone.eff rfl (Wanted.free rfl) (E.call rfl go32 rfl (fill_ok (a := a30) _ (by repeat (first | exact List.Mem.head _ | assumption | apply List.Mem.tail)) (by omega) (by omega))) rfl ?_
                rintro _ _ ⟨a33, c33, s33, hs33, rfl, rfl⟩
                refine ⟨.inr (by repeat (first | exact Ent.refl _ | (apply Ent.cons; (· repeat (first | exact Pick.here | (refine Pick.sl ?_; (· repeat (first | exact List.Mem.head _ | assumption | apply List.Mem.tail))) | apply Pick.there))) | (refine Ent.trans (Ent.drop _ _) ?_))), ?_⟩
                refine RH.publish (T := R8) (a := a33) Pick.here ?_
                refine RH.val 6 rfl (by kernel_rfl) (by kernel_rfl) (by kernel_rfl) (by kernel_rfl) (Wanted.free rfl) (V.assign rfl rfl) rfl ?_
                refine RH.done (by kernel_rfl) ?_
                refine SG.region ?_
                refine RL.val (Wanted.free rfl) (V.move rfl rfl) rfl ?_
                refine RL.val (Wanted.free rfl) (V.move rfl rfl) rfl ?_
                refine RL.val (Wanted.free rfl) (V.move rfl rfl) rfl ?_
                refine RL.eff (Wanted.free rfl) (E.call rfl go31 rfl (dWrite_ok hD (by repeat (first | exact Pick.here | assumption | apply Pick.there)) _ (s := s33) (by repeat (first | exact List.Mem.head _ | assumption | apply List.Mem.tail)) (by omega))) rfl ?_
                rintro _ _ ⟨rfl, rfl⟩
                refine RL.val (Wanted.free rfl) (V.move rfl rfl) rfl ?_
                refine RL.val (Wanted.free rfl) (V.move rfl rfl) rfl ?_
                refine RL.val (Wanted.free rfl) (V.move rfl rfl) rfl ?_
                refine RL.eff (Wanted.free rfl) (E.call rfl go46 rfl (rWrite_ok hD (by repeat (first | exact Pick.here | assumption | apply Pick.there)) _ (s := s33) (by repeat (first | exact List.Mem.head _ | assumption | apply List.Mem.tail)) (by omega))) rfl ?_
                rintro _ _ ⟨rfl, rfl⟩
                refine RL.cmpT (Wanted.free rfl) (V.bin rfl rfl rfl B.eql) rfl rfl ?_
                refine RL.val (Wanted.free rfl) (V.assign rfl rfl) rfl ?_
                refine RL.nil ?_
                refine SG.inBlock ?_
                refine SG.weaken (rest (D.write kk s33) (hD.write _ _)) ?_ ?_
                · repeat (first | exact EnvLe.nil _ | refine EnvLe.cons rfl ?_)
                · repeat (first | exact Ent.refl _ | (apply Ent.cons; (· repeat (first | exact Pick.here | (refine Pick.sl ?_; (· repeat (first | exact List.Mem.head _ | assumption | apply List.Mem.tail))) | apply Pick.there))) | (refine Ent.trans (Ent.drop _ _) ?_))

set_option maxRecDepth 100000 in
theorem matches_law {κ : World} {L : List Assn} {a : Option Addr} {n0 c : Nat} {l : List OpD} (n : Int) (h1 : -9223372036854775808 ≤ n) (h2 : n ≤ 9223372036854775807) (hm : Sl ROp a n0 c l ∈ L) :
    Ctr Try.prog 3 #[vI n, .slice a n0 c] κ L (fun v M => v = vB true ∧ M = L) := by
  refine Ctr.enter (vs := [vI n, .slice a n0 c]) (m := 55) Try.func3 rfl rfl rfl ?_
  obtain ⟨q, hq, hq2⟩ := aroundV_nat (n := n) (most := 16) (by omega)
  refine SG.sl hm fun hl hlc hc63 => ?_
  subst hl
  have hfr := fresh_ok (n := 1 + q) (by omega) (by omega)
  refine SG.seq ?_
  refine SG.region ?_
  refine RL.val (Wanted.free rfl) (V.assign rfl rfl) rfl ?_
  refine RL.nil ?_
  refine SG.seq ?_
  refine SG.region ?_
  refine RL.val (Wanted.free rfl) (V.move rfl rfl) rfl ?_
  refine RL.eff (Wanted.free rfl) (E.call rfl go12 rfl (made_ok h1 h2 hq hq2)) rfl ?_
  rintro _ _ ⟨b12, rfl, rfl⟩
  refine RL.val (Wanted.free rfl) (V.assign rfl rfl) rfl ?_
  refine RL.nil ?_
  refine SG.seq ?_
  refine SG.region ?_
  refine RL.val (Wanted.free rfl) (V.move rfl rfl) rfl ?_
  refine RL.eff (Wanted.free rfl) (E.call rfl go14 rfl (around_ok _ _ h1 h2 (by omega))) rfl ?_
  rintro _ _ ⟨rfl, rfl⟩
  rw [hq]
  refine RL.val (Wanted.free rfl) (V.bin rfl rfl rfl (B.addI (by omega) (by omega))) rfl ?_
  rw [show (1 : Int) + (q : Int) = ((1 + q : Nat) : Int) from by omega]
  refine RL.eff (Wanted.free rfl) (E.call rfl go13 rfl (rNew_ok (n := 1 + q) (by omega) (by omega))) rfl ?_
  rintro _ _ ⟨b18, rfl, rfl⟩
  refine RL.val (Wanted.free rfl) (V.move rfl rfl) rfl ?_
  refine RL.val (Wanted.free rfl) (V.extract rfl rfl rfl) rfl ?_
  refine RL.val (Wanted.free rfl) (V.extract rfl rfl rfl) rfl ?_
  refine RL.val (Wanted.free rfl) (V.assign rfl rfl) rfl ?_
  refine RL.val (Wanted.free rfl) (V.assign rfl rfl) rfl ?_
  refine RL.nil ?_
  refine SG.seq ?_
  refine SG.seq ?_
  refine SG.region ?_
  refine RL.val (Wanted.free rfl) (V.move rfl rfl) rfl ?_
  refine RL.cmpF (Wanted.free rfl) (V.eqlPtrNil rfl up23 rfl rfl) rfl (by simp) ?_
  refine RL.nil ?_
  refine SG.cond_false rfl ?_
  refine SG.skip ?_
  refine SG.seq ?_
  refine SG.seq ?_
  refine SG.region ?_
  refine RL.val (Wanted.free rfl) (V.assign rfl rfl) rfl ?_
  refine RL.nil ?_
  refine SG.block ?_
  refine SG.weaken (SG.loop2 (fun m al M => ∃ (i b r : Nat) (D : Dk), i ≤ l.length ∧ i ≤ 60 ∧ m = 60 - i ∧ D.ok (i + 1) ∧ al = [(0, vI n), (1, .slice a l.length c), (5, ptr b 0), (6, ptr r 0), (8, vI i)] ∧ M = Dsk b D :: RDsk r D :: L) (m0 := _) ⟨0, b12, b18, _, by omega, by omega, rfl, hfr, rfl, rfl⟩ ?_) ?_ ?_
  rotate_left
  · repeat (first | exact EnvLe.nil _ | refine EnvLe.cons rfl ?_)
  · repeat (first | exact Ent.refl _ | (apply Ent.cons; (· repeat (first | exact Pick.here | (refine Pick.sl ?_; (· repeat (first | exact List.Mem.head _ | assumption | apply List.Mem.tail))) | apply Pick.there))) | (refine Ent.trans (Ent.drop _ _) ?_))
  rintro _ _ _ ⟨i, b, r, D, hi, hi60, rfl, hD, rfl, rfl⟩ ih0
  refine SG.seq ?_
  refine SG.seq ?_
  refine SG.region ?_
  refine RL.val (Wanted.free rfl) (V.move rfl rfl) rfl ?_
  refine RL.val (Wanted.free rfl) (V.move rfl rfl) rfl ?_
  refine RL.val (Wanted.free rfl) (V.len rfl rfl el22.under rfl) rfl ?_
  refine RL.cmp (Wanted.free rfl) (V.bin rfl rfl rfl B.lss) rfl (fun h19 => ?_) (fun h19 => ?_)
  · skip
    refine RL.val (Wanted.free rfl) (V.move rfl rfl) rfl ?_
    refine RL.val (Wanted.yes rfl rfl rfl rfl) (V.move rfl rfl) rfl ?_
    refine RL.cmp (Wanted.yes rfl rfl rfl rfl) (V.bin rfl rfl rfl B.lss) rfl (fun h22 => ?_) (fun h22 => ?_)
    · skip
      refine RL.val (Wanted.free rfl) (V.pick_true rfl rfl rfl) rfl ?_
      refine RL.nil ?_
      refine SG.cond_true rfl ?_
      refine SG.skip ?_
      refine SG.seq ?_
      refine SG.block ?_
      refine SG.seq ?_
      refine SG.elemOp (a := a) (by repeat (first | exact List.Mem.head _ | assumption | apply List.Mem.tail)) (show l[i]? = some l[i] from List.getElem?_eq_getElem (by omega)) fun ab mb cb al0 ml cl hok => ?_
      refine SG.region ?_
      refine RL.val (Wanted.free rfl) (V.move rfl rfl) rfl ?_
      refine RL.val (Wanted.free rfl) (V.move rfl rfl) rfl ?_
      refine RL.val (Wanted.free rfl) (V.move rfl rfl) rfl ?_
      refine RL.val (Wanted.free rfl) (V.move rfl rfl) rfl ?_
      refine RL.val (Wanted.free rfl) (V.indexSl (j := i) rfl el22.slice rfl rfl (by repeat (first | exact List.Mem.head _ | assumption | apply List.Mem.tail)) (by first | rfl | omega) (by omega)) rfl ?_
      refine RL.val (Wanted.free rfl) (V.loadAt rfl ag35 rfl (by repeat (first | exact List.Mem.head _ | assumption | apply List.Mem.tail)) rfl) rfl ?_
      refine RL.eff (Wanted.free rfl) (E.call rfl go15 rfl (step_ok (o := l[i]) hD (by repeat (first | exact Ent.refl _ | (apply Ent.cons; (· repeat (first | exact Pick.here | (refine Pick.sl ?_; (· repeat (first | exact List.Mem.head _ | assumption | apply List.Mem.tail))) | apply Pick.there))) | (refine Ent.trans (Ent.drop _ _) ?_))) (by omega) (by omega) hok (by repeat (first | exact List.Mem.head _ | assumption | apply List.Mem.tail)) (by repeat (first | exact List.Mem.head _ | assumption | apply List.Mem.tail)))) rfl ?_
      rintro _ _ ⟨b40, r40, D40, rfl, hD40, rfl⟩
      refine RL.val (Wanted.free rfl) (V.move rfl rfl) rfl ?_
      refine RL.val (Wanted.free rfl) (V.extract rfl rfl rfl) rfl ?_
      refine RL.val (Wanted.free rfl) (V.extract rfl rfl rfl) rfl ?_
      refine RL.val (Wanted.free rfl) (V.extract rfl rfl rfl) rfl ?_
      refine RL.val (Wanted.free rfl) (V.assign rfl rfl) rfl ?_
      refine RL.val (Wanted.free rfl) (V.assign rfl rfl) rfl ?_
      refine RL.val (Wanted.free rfl) (V.assign rfl rfl) rfl ?_
      refine RL.nil ?_
      refine SG.seq ?_
      refine SG.region ?_
      refine RL.val (Wanted.free rfl) (V.move rfl rfl) rfl ?_
      refine RL.val (Wanted.free rfl) (V.assign rfl rfl) rfl ?_
      refine RL.nil ?_
      refine SG.seq ?_
      refine SG.region ?_
      refine RL.val (Wanted.free rfl) (V.move rfl rfl) rfl ?_
      refine RL.val (Wanted.free rfl) (V.assign rfl rfl) rfl ?_
      refine RL.nil ?_
      refine SG.seq ?_
      refine SG.region ?_
      refine RL.val (Wanted.free rfl) (V.move rfl rfl) rfl ?_
      refine RL.val (Wanted.free rfl) (V.not rfl rfl) rfl ?_
      refine RL.val (Wanted.free rfl) (V.move rfl rfl) rfl ?_
      refine RL.val (Wanted.yes rfl rfl rfl rfl) (V.move rfl rfl) rfl ?_
      refine RL.val (Wanted.yes rfl rfl rfl rfl) (V.move rfl rfl) rfl ?_
      refine RL.eff (Wanted.yes rfl rfl rfl rfl) (E.call rfl go16 rfl (same_ok (D := D40) hD40 (by repeat (first | exact Ent.refl _ | (apply Ent.cons; (· repeat (first | exact Pick.here | (refine Pick.sl ?_; (· repeat (first | exact List.Mem.head _ | assumption | apply List.Mem.tail))) | apply Pick.there))) | (refine Ent.trans (Ent.drop _ _) ?_))) (by omega))) rfl ?_
      rintro _ _ ⟨rfl, rfl⟩
      refine RL.val (Wanted.yes rfl rfl rfl rfl) (V.not rfl rfl) rfl ?_
      refine RL.val (Wanted.free rfl) (V.pick_false rfl rfl rfl) rfl ?_
      refine RL.nil ?_
      refine SG.cond_false rfl ?_
      refine SG.skip ?_
      refine SG.inBlock ?_
      refine SG.region ?_
      refine RL.val (Wanted.free rfl) (V.move rfl rfl) rfl ?_
      refine RL.val (Wanted.free rfl) (V.bin rfl rfl rfl (B.addI (by omega) (by omega))) rfl ?_
      refine RL.val (Wanted.free rfl) (V.assign rfl rfl) rfl ?_
      refine RL.nil ?_
      refine SG.weaken (ih0 _ _ _ ?_ ⟨i + 1, b40, r40, D40, by omega, by omega, rfl, hD40, rfl, rfl⟩) ?_ ?_
      · omega
      · repeat (first | exact EnvLe.nil _ | refine EnvLe.cons rfl ?_)
      · repeat (first | exact Ent.refl _ | (apply Ent.cons; (· repeat (first | exact Pick.here | (refine Pick.sl ?_; (· repeat (first | exact List.Mem.head _ | assumption | apply List.Mem.tail))) | apply Pick.there))) | (refine Ent.trans (Ent.drop _ _) ?_))
    · skip
      refine RL.val (Wanted.free rfl) (V.pick_true rfl rfl rfl) rfl ?_
      refine RL.nil ?_
      refine SG.cond_false rfl ?_
      refine SG.exit rfl ?_
      refine SG.seq ?_
      refine SG.region ?_
      refine RL.eff (Wanted.free rfl) (E.call rfl go17 rfl (lives_ok)) rfl ?_
      rintro _ _ ⟨rfl, rfl⟩
      refine RL.val (Wanted.free rfl) (V.assign rfl rfl) rfl ?_
      refine RL.nil ?_
      refine SG.retE (Ret.r1 Try.func3 rfl (.tmp rfl)) ?_ ⟨rfl, rfl⟩
      repeat (first | exact Ent.refl _ | (apply Ent.cons; (· repeat (first | exact Pick.here | (refine Pick.sl ?_; (· repeat (first | exact List.Mem.head _ | assumption | apply List.Mem.tail))) | apply Pick.there))) | (refine Ent.trans (Ent.drop _ _) ?_))
  · skip
    refine RL.val (Wanted.free rfl) (V.move rfl rfl) rfl ?_
    refine RL.skip (Wanted.no rfl rfl rfl rfl rfl) rfl ?_
    refine RL.skip (Wanted.no rfl rfl rfl rfl rfl) rfl ?_
    refine RL.val (Wanted.free rfl) (V.pick_false rfl rfl rfl) rfl ?_
    refine RL.nil ?_
    refine SG.cond_false rfl ?_
    refine SG.exit rfl ?_
    refine SG.seq ?_
    refine SG.region ?_
    refine RL.eff (Wanted.free rfl) (E.call rfl go17 rfl (lives_ok)) rfl ?_
    rintro _ _ ⟨rfl, rfl⟩
    refine RL.val (Wanted.free rfl) (V.assign rfl rfl) rfl ?_
    refine RL.nil ?_
    refine SG.retE (Ret.r1 Try.func3 rfl (.tmp rfl)) ?_ ⟨rfl, rfl⟩
    repeat (first | exact Ent.refl _ | (apply Ent.cons; (· repeat (first | exact Pick.here | (refine Pick.sl ?_; (· repeat (first | exact List.Mem.head _ | assumption | apply List.Mem.tail))) | apply Pick.there))) | (refine Ent.trans (Ent.drop _ _) ?_))

end Go.Proofs.Yteghgfgkkpfcaaa
