/- The statement on what survives. -/
import Derived.Test.YteghgfgkkpfcaaaLaws3
import Derived.Test.YteghgfgkkpfcaaaDPlain5
namespace Go.Proofs.Yteghgfgkkpfcaaa
open Go.Wk Go.Dsk

/-- What a statement knows of a disk. -/
def Trk (t : Nat) (T : List (List Sec)) : Assn := Exp (fun (_ : Addr × Nat) => True) fun x => [Blk t 55 [.slice (some x.1) T.length x.2], Nest (Rep.slice R8) 32 56 (some x.1) T.length x.2 T]
section
variable {P : Program} {f : FuncId} {n : Nat} {κ : World} {K : Post} {k : List Item} {L L1 L' : List Assn} {al : List (Nat × Value)} {t : Nat} {T : List (List Sec)}
theorem SG.openT (hp : Pick (Trk t T) L L1) (h : ∀ ad c, SG P f n κ K k al (Blk t 55 [.slice (some ad) T.length c] :: Nest (Rep.slice R8) 32 56 (some ad) T.length c T :: L1)) : SG P f n κ K k al L := SG.openExp hp fun x _ => h x.1 x.2
theorem Trk.ent {ad : Addr} {c : Nat} (h : Ent L' (Blk t 55 [.slice (some ad) T.length c] :: Nest (Rep.slice R8) 32 56 (some ad) T.length c T :: L)) : Ent L' (Trk t T :: L) :=
  h.trans (Exp.close (ι := Addr × Nat) (p := fun _ => True) (A := fun x => [Blk t 55 [.slice (some x.1) T.length x.2], Nest (Rep.slice R8) 32 56 (some x.1) T.length x.2 T]) (ad, c) trivial)
end

set_option maxRecDepth 100000 in
theorem tracked_ok {κ : World} {L : List Assn} {n : Int} {q : Nat} (h1 : -9223372036854775808 ≤ n) (h2 : n ≤ 9223372036854775807) (hq : aroundV n 16 = (q : Int)) (hq2 : (q : Int) < 16) :
    Ctr Try.prog 24 #[vI n] κ L (fun v M => ∃ b t, v = .tuple #[ptr b 0, ptr t 0] ∧ M = Dsk b (fresh (1 + q)) :: Trk t (fresh (1 + q)).S :: L) := by
  refine Ctr.enter (vs := [vI n]) (m := 35) Try.func24 rfl rfl rfl ?_
  refine SG.seq ?_
  refine SG.region ?_
  refine RL.val (Wanted.free rfl) (V.assign rfl rfl) rfl ?_
  refine RL.val (Wanted.free rfl) (V.assign rfl rfl) rfl ?_
  refine RL.nil ?_
  refine SG.seq ?_
  refine SG.region ?_
  refine RL.val (Wanted.free rfl) (V.move rfl rfl) rfl ?_
  refine RL.eff (Wanted.free rfl) (E.call rfl go12 rfl (made_ok h1 h2 hq hq2)) rfl ?_
  rintro _ _ ⟨b8, rfl, rfl⟩
  refine RL.val (Wanted.free rfl) (V.assign rfl rfl) rfl ?_
  refine RL.nil ?_
  refine SG.seq ?_
  refine SG.region ?_
  refine RL.val (Wanted.free rfl) (V.buildS [] rfl bs55 (by exact trivial) rfl) rfl ?_
  refine RL.eff (Wanted.free rfl) (E.box _ rfl rfl rfl) rfl ?_
  rintro _ _ ⟨t10, rfl, rfl⟩
  refine RL.val (Wanted.free rfl) (V.assign rfl rfl) rfl ?_
  refine RL.nil ?_
  refine SG.seq ?_
  refine SG.seq ?_
  refine SG.region ?_
  refine RL.val (Wanted.free rfl) (V.assign rfl rfl) rfl ?_
  refine RL.nil ?_
  refine SG.block ?_
  refine SG.ent (Nest.nil (T := Rep.slice R8) (e := 32) (eo := 56)) ?_
  refine SG.weaken (SG.loop2 (fun m al M => ∃ (i : Nat) (a : Option Addr) (c : Nat), i ≤ 1 + q ∧ m = 1 + q - i ∧ al = [(0, vI n), (4, ptr b8 0), (5, ptr t10 0), (6, vI i)] ∧ M = Blk t10 55 [.slice a i c] :: Nest (Rep.slice R8) 32 56 a i c (List.replicate i [by64 0]) :: Dsk b8 (fresh (1 + q)) :: L) (m0 := _) ⟨0, none, 0, by omega, rfl, rfl, rfl⟩ ?_) ?_ ?_
  rotate_left
  · repeat (first | exact EnvLe.nil _ | refine EnvLe.cons rfl ?_)
  · repeat (first | exact Ent.refl _ | (apply Ent.cons; (· repeat (first | exact Pick.here | (refine Pick.sl ?_; (· repeat (first | exact List.Mem.head _ | assumption | apply List.Mem.tail))) | apply Pick.there))) | (refine Ent.trans (Ent.drop _ _) ?_))
  rintro _ _ _ ⟨i, a, c, hi, rfl, rfl, rfl⟩ ih0
  refine SG.seq ?_
  refine SG.seq ?_
  refine SG.region ?_
  refine RL.val (Wanted.free rfl) (V.move rfl rfl) rfl ?_
  refine RL.cmpT (Wanted.free rfl) (V.neqPtrNil rfl up23 rfl rfl) rfl (by simp) ?_
  refine RL.val (Wanted.free rfl) (V.move rfl rfl) rfl ?_
  refine RL.val (Wanted.yes rfl rfl rfl rfl) (V.move rfl rfl) rfl ?_
  refine RL.val (Wanted.yes rfl rfl rfl rfl) (V.move rfl rfl) rfl ?_
  refine RL.eff (Wanted.yes rfl rfl rfl rfl) (E.call rfl go14 rfl (around_ok _ _ h1 h2 (by omega))) rfl ?_
  rintro _ _ ⟨rfl, rfl⟩
  rw [hq]
  refine RL.val (Wanted.yes rfl rfl rfl rfl) (V.bin rfl rfl rfl (B.addI (by omega) (by omega))) rfl ?_
  refine RL.cmp (Wanted.yes rfl rfl rfl rfl) (V.bin rfl rfl rfl B.lss) rfl (fun h16 => ?_) (fun h16 => ?_)
  · skip
    refine RL.val (Wanted.free rfl) (V.pick_true rfl rfl rfl) rfl ?_
    refine RL.nil ?_
    refine SG.cond_true rfl ?_
    refine SG.skip ?_
    refine SG.seq ?_
    refine SG.block ?_
    refine SG.openNest (by repeat (first | exact Pick.here | assumption | apply Pick.there)) fun ts xs hts hxs => ?_
    refine SG.buf (T := RTri) (by repeat (first | exact Pick.here | assumption | apply Pick.there)) fun hb _ _ => ?_
    refine SG.drawN 12 11 (Blk t10 55 [.slice a i c] :: Each (nown (Rep.slice R8) 32) xs :: Dsk b8 (fresh (1 + q)) :: L) wide rfl rfl (by repeat (first | exact Ent.refl _ | (apply Ent.cons; (· repeat (first | exact Pick.here | (refine Pick.sl ?_; (· repeat (first | exact List.Mem.head _ | assumption | apply List.Mem.tail))) | apply Pick.there))) | (refine Ent.trans (Ent.drop _ _) ?_))) ?_
    refine RH.val 0 rfl (by kernel_rfl) (by kernel_rfl) (by kernel_rfl) (by kernel_rfl) (Wanted.free rfl) (V.move rfl rfl) rfl ?_
    refine RH.val 1 rfl (by kernel_rfl) (by kernel_rfl) (by kernel_rfl) (by kernel_rfl) (Wanted.free rfl) (V.move rfl rfl) rfl ?_
    refine RH.val 2 rfl (by kernel_rfl) (by kernel_rfl) (by kernel_rfl) (by kernel_rfl) (Wanted.free rfl) (V.nilCheck rfl rfl) rfl ?_
    refine RH.val 3 rfl (by kernel_rfl) (by kernel_rfl) (by kernel_rfl) (by kernel_rfl) (Wanted.free rfl) (V.fieldAddr rfl rfl fo55_0) rfl ?_
    refine RH.val 4 rfl (by kernel_rfl) (by kernel_rfl) (by kernel_rfl) (by kernel_rfl) (Wanted.free rfl) (V.load rfl on53 rfl (by repeat (first | exact Pick.here | assumption | apply Pick.there)) rfl) rfl ?_
    refine RH.one (i := 5) (by kernel_rfl) ?_
    refine RHone.eff rfl (Wanted.free rfl) (E.call rfl go23 rfl (full_ok 0)) rfl ?_
    rintro _ _ ⟨a27, c27, rfl, rfl⟩
    refine ⟨.inr (by repeat (first | exact Ent.refl _ | (apply Ent.cons; (· repeat (first | exact Pick.here | (refine Pick.sl ?_; (· repeat (first | exact List.Mem.head _ | assumption | apply List.Mem.tail))) | apply Pick.there))) | (refine Ent.trans (Ent.drop _ _) ?_))), ?_⟩
    refine RH.publish (T := R8) (a := a27) Pick.here ?_
    refine RH.one (i := 6) (by kernel_rfl) ?_
    refine RHone.eff rfl (Wanted.free rfl) (E.lit1 _ rfl el56.slice ze32 rfl (by decide) (by decide) rfl rfl rfl) rfl ?_
    rintro _ _ ⟨b28, rfl, rfl⟩
    refine ⟨.inr (by repeat (first | exact Ent.refl _ | (apply Ent.cons; (· repeat (first | exact Pick.here | (refine Pick.sl ?_; (· repeat (first | exact List.Mem.head _ | assumption | apply List.Mem.tail))) | apply Pick.there))) | (refine Ent.trans (Ent.drop _ _) ?_))), ?_⟩
    refine RH.one (i := 7) (by kernel_rfl) ?_
    refine RHone.eff rfl (Wanted.free rfl) (E.lit1 _ rfl el53.slice ze56 rfl (by decide) (by decide) rfl rfl rfl) rfl ?_
    rintro _ _ ⟨b29, rfl, rfl⟩
    refine ⟨.inr (by repeat (first | exact Ent.refl _ | (apply Ent.cons; (· repeat (first | exact Pick.here | (refine Pick.sl ?_; (· repeat (first | exact List.Mem.head _ | assumption | apply List.Mem.tail))) | apply Pick.there))) | (refine Ent.trans (Ent.drop _ _) ?_))), ?_⟩
    refine RH.one (i := 8) (by kernel_rfl) ?_
    refine RHone.eff rfl (Wanted.free rfl) (E.append (T := RTri) rfl rfl rfl el53 el53.noInt rfl rfl (by repeat (first | exact Pick.here | assumption | apply Pick.there)) (Src.lit (x := (some ⟨b28, 0, none⟩, 1, 1)) (E := 56) (b := b29) (by repeat (first | exact Pick.here | assumption | apply Pick.there)) trivial) (by first | omega | (simp; omega)) (by first | omega | (simp; omega))) rfl ?_
    intro _ _ hK25
    try rw [List.nil_append] at hK25
    try rw [Nat.zero_add] at hK25
    obtain ⟨a30, c30, rfl, rfl⟩ := hK25
    refine ⟨.inr (by repeat (first | exact Ent.refl _ | (apply Ent.cons; (· repeat (first | exact Pick.here | (refine Pick.sl ?_; (· repeat (first | exact List.Mem.head _ | assumption | apply List.Mem.tail))) | apply Pick.there))) | (refine Ent.trans (Ent.drop _ _) ?_))), ?_⟩
    refine RH.pure 9 rfl (by kernel_rfl) (by kernel_rfl) (by kernel_rfl) (by kernel_rfl) (Wanted.free rfl) (V.nilCheck rfl rfl) rfl ?_
    refine RH.val 10 rfl (by kernel_rfl) (by kernel_rfl) (by kernel_rfl) (by kernel_rfl) (Wanted.free rfl) (V.fieldAddr rfl rfl fo55_0) rfl ?_
    refine RH.one (i := 11) (by kernel_rfl) ?_
    refine RHone.eff rfl (Wanted.free rfl) (E.store1 rfl rfl rfl rfl rfl sz53 (by repeat (first | exact Pick.here | assumption | apply Pick.there)) rfl) rfl ?_
    rintro _ _ rfl
    refine ⟨.inl (by kernel_rfl), ?_⟩
    refine RH.done (by kernel_rfl) ?_
    refine SG.inBlock ?_
    refine SG.region ?_
    refine RL.val (Wanted.free rfl) (V.move rfl rfl) rfl ?_
    refine RL.val (Wanted.free rfl) (V.bin rfl rfl rfl (B.addI (by omega) (by omega))) rfl ?_
    refine RL.val (Wanted.free rfl) (V.assign rfl rfl) rfl ?_
    refine RL.nil ?_
    refine SG.ent (Buf.lit1 (T := R8) (b := b28) (y := by64 0) (a := a27) (m := 64) (c := c27) (by repeat (first | exact Pick.here | assumption | apply Pick.there)) (by repeat (first | exact List.Mem.head _ | assumption | apply List.Mem.tail))) ?_
    refine SG.weaken (ih0 _ _ _ ?_ ⟨i + 1, a30, c30, by omega, rfl, rfl, rfl⟩) ?_ ?_
    · omega
    · repeat (first | exact EnvLe.nil _ | refine EnvLe.cons rfl ?_)
    · rw [show (List.replicate (i + 1) [by64 0] : List (List (List UInt8))) = List.replicate i [by64 0] ++ [[by64 0]] from List.replicate_succ']
      refine Ent.cons (by repeat (first | exact Pick.here | assumption | apply Pick.there)) ?_
      refine Ent.trans ?_ (Nest.snoc (a1 := some ⟨b28, 0, none⟩) (m1 := 1) (c1 := 1) (L := Dsk b8 (fresh (1 + q)) :: L) hts hxs)
      repeat (first | exact Ent.refl _ | (apply Ent.cons; (· repeat (first | exact Pick.here | (refine Pick.sl ?_; (· repeat (first | exact List.Mem.head _ | assumption | apply List.Mem.tail))) | apply Pick.there))) | (refine Ent.trans (Ent.drop _ _) ?_))
  · skip
    refine RL.val (Wanted.free rfl) (V.pick_true rfl rfl rfl) rfl ?_
    refine RL.nil ?_
    refine SG.cond_false rfl ?_
    refine SG.exit rfl ?_
    refine SG.seq ?_
    refine SG.region ?_
    refine RL.val (Wanted.free rfl) (V.move rfl rfl) rfl ?_
    refine RL.val (Wanted.free rfl) (V.move rfl rfl) rfl ?_
    refine RL.val (Wanted.free rfl) (V.assign rfl rfl) rfl ?_
    refine RL.val (Wanted.free rfl) (V.assign rfl rfl) rfl ?_
    refine RL.nil ?_
    obtain rfl : i = 1 + q := by omega
    have e1 : (fresh (1 + q)).S.length = 1 + q := by simp [fresh]
    refine SG.openNest (by repeat (first | exact Pick.here | assumption | apply Pick.there)) fun ts xs hts hxs => ?_
    refine SG.bufAd (T := RTri) (a := a) (by repeat (first | exact Pick.here | assumption | apply Pick.there)) (by omega) fun ad had => ?_
    subst had
    refine SG.retE (Ret.r2 Try.func24 rfl (.tmp rfl) (.tmp rfl)) ?_ ⟨_, _, rfl, rfl⟩
    refine Ent.cons (by repeat (first | exact Pick.here | assumption | apply Pick.there)) ?_
    refine Trk.ent (ad := ad) (c := c) ?_
    rw [e1]
    refine Ent.cons (by repeat (first | exact Pick.here | assumption | apply Pick.there)) ?_
    subst hts
    refine Ent.trans ?_ (Nest.close (L := L) hxs)
    repeat (first | exact Ent.refl _ | (apply Ent.cons; (· repeat (first | exact Pick.here | (refine Pick.sl ?_; (· repeat (first | exact List.Mem.head _ | assumption | apply List.Mem.tail))) | apply Pick.there))) | (refine Ent.trans (Ent.drop _ _) ?_))

set_option maxRecDepth 100000 in
theorem tWrite_ok {κ : World} {L : List Assn} {L1 : List Assn} {b t : Nat} {D : Dk} {m0 : Nat} (hD : D.ok m0) (hC : D.calm) (hp : Ent L (Dsk b D :: Trk t D.S :: L1)) (hm0 : m0 ≤ 900000) {o : OpD} {ab al0 : Option Addr} {mb cb ml cl : Nat} (ho : o.ok) (h8 : Sl R8 ab mb cb o.b ∈ L1) :
    Ctr Try.prog 25 #[ptr t 0, ptr b 0, .agg [vI o.kind, vI o.k, vI o.n, .slice ab mb cb, .slice al0 ml cl].toArray] κ L (fun v M => ∃ (k : Nat) (s : Sec), v = vB true ∧ k < D.S.length ∧ s.length = 64 ∧ M = Dsk b (D.add k s) :: Trk t (D.add k s).S :: L1) := by
  refine Ctr.enter (vs := [ptr t 0, ptr b 0, .agg [vI o.kind, vI o.k, vI o.n, .slice ab mb cb, .slice al0 ml cl].toArray]) (m := 44) Try.func25 rfl rfl rfl ?_
  refine SG.ent hp ?_
  have hlen := hD.len
  obtain ⟨ho1, ho2, ho3⟩ := ho
  unfold inInt at ho1 ho2 ho3
  refine SG.openT (t := t) (by repeat (first | exact Pick.here | assumption | apply Pick.there)) fun ad c => ?_
  obtain ⟨kk, hkk, hkk2⟩ := aroundV_nat (n := o.k) (most := (D.S.length : Int)) (by omega)
  have hk : D.S[kk]? = some D.S[kk] := List.getElem?_eq_getElem (by omega)
  obtain ⟨hl1, hl2, hl3⟩ := hD.all _ (mem_of hk)
  have hat : D.at (kk : Int) = D.S[kk] := by have := Dk.at_mem (D := D) (k := (kk : Int)) (by omega) (by omega); rw [Int.toNat_natCast, hk] at this; exact (Option.some.inj this).symm
  generalize D.S[kk] = l at *
  refine SG.seq ?_
  refine SG.region ?_
  refine RL.eff (Wanted.free rfl) (E.box [vI o.kind, vI o.k, vI o.n, .slice ab mb cb, .slice al0 ml cl] rfl rfl rfl) rfl ?_
  rintro _ _ ⟨b5, rfl, rfl⟩
  refine RL.val (Wanted.free rfl) (V.assign rfl rfl) rfl ?_
  refine RL.nil ?_
  refine SG.seq ?_
  refine SG.drawL 9 9 wide rfl rfl ?_
  refine RH.val 0 rfl (by kernel_rfl) (by kernel_rfl) (by kernel_rfl) (by kernel_rfl) (Wanted.free rfl) (V.fieldAddr rfl rfl fo35_1) rfl ?_
  refine RH.val 1 rfl (by kernel_rfl) (by kernel_rfl) (by kernel_rfl) (by kernel_rfl) (Wanted.free rfl) (V.load rfl on3 rfl (by repeat (first | exact Pick.here | assumption | apply Pick.there)) rfl) rfl ?_
  refine RH.val 2 rfl (by kernel_rfl) (by kernel_rfl) (by kernel_rfl) (by kernel_rfl) (Wanted.free rfl) (V.move rfl rfl) rfl ?_
  refine RH.val 3 rfl (by kernel_rfl) (by kernel_rfl) (by kernel_rfl) (by kernel_rfl) (Wanted.free rfl) (V.nilCheck rfl rfl) rfl ?_
  refine RH.val 4 rfl (by kernel_rfl) (by kernel_rfl) (by kernel_rfl) (by kernel_rfl) (Wanted.free rfl) (V.fieldAddr rfl rfl fo55_0) rfl ?_
  refine RH.val 5 rfl (by kernel_rfl) (by kernel_rfl) (by kernel_rfl) (by kernel_rfl) (Wanted.free rfl) (V.load rfl on53 rfl (by repeat (first | exact Pick.here | assumption | apply Pick.there)) rfl) rfl ?_
  refine RH.val 6 rfl (by kernel_rfl) (by kernel_rfl) (by kernel_rfl) (by kernel_rfl) (Wanted.free rfl) (V.len rfl rfl el53.under rfl) rfl ?_
  refine RH.one (i := 7) (by kernel_rfl) ?_
  refine RHone.eff rfl (Wanted.free rfl) (E.call rfl go14 rfl (around_ok _ _ (by omega) (by omega) (by omega))) rfl ?_
  rintro _ _ ⟨rfl, rfl⟩
  refine ⟨.inr (by repeat (first | exact Ent.refl _ | (apply Ent.cons; (· repeat (first | exact Pick.here | (refine Pick.sl ?_; (· repeat (first | exact List.Mem.head _ | assumption | apply List.Mem.tail))) | apply Pick.there))) | (refine Ent.trans (Ent.drop _ _) ?_))), ?_⟩
  rw [hkk]
  refine RH.val 8 rfl (by kernel_rfl) (by kernel_rfl) (by kernel_rfl) (by kernel_rfl) (Wanted.free rfl) (V.assign rfl rfl) rfl ?_
  refine RH.done (by kernel_rfl) ?_
  refine SG.seq ?_
  refine SG.drawL 7 7 wide rfl rfl ?_
  refine RH.val 0 rfl (by kernel_rfl) (by kernel_rfl) (by kernel_rfl) (by kernel_rfl) (Wanted.free rfl) (V.fieldAddr rfl rfl fo35_3) rfl ?_
  refine RH.val 1 rfl (by kernel_rfl) (by kernel_rfl) (by kernel_rfl) (by kernel_rfl) (Wanted.free rfl) (V.load rfl on32 rfl (by repeat (first | exact Pick.here | assumption | apply Pick.there)) rfl) rfl ?_
  refine RH.val 3 rfl (by kernel_rfl) (by kernel_rfl) (by kernel_rfl) (by kernel_rfl) (Wanted.free rfl) (V.fieldAddr rfl rfl fo35_2) rfl ?_
  refine RH.val 4 rfl (by kernel_rfl) (by kernel_rfl) (by kernel_rfl) (by kernel_rfl) (Wanted.free rfl) (V.load rfl on3 rfl (by repeat (first | exact Pick.here | assumption | apply Pick.there)) rfl) rfl ?_
  refine RH.one (i := 2) (by kernel_rfl) ?_
  refine RHone.eff rfl (Wanted.free rfl) (E.call rfl go33 rfl (few_ok (a := ab) (by repeat (first | exact List.Mem.head _ | assumption | apply List.Mem.tail)) (by decide) (by decide))) rfl ?_
  rintro _ _ ⟨a19, k19, c19, rfl, rfl⟩
  refine ⟨.inr (by repeat (first | exact Ent.refl _ | (apply Ent.cons; (· repeat (first | exact Pick.here | (refine Pick.sl ?_; (· repeat (first | exact List.Mem.head _ | assumption | apply List.Mem.tail))) | apply Pick.there))) | (refine Ent.trans (Ent.drop _ _) ?_))), ?_⟩
  refine RH.publish (T := R8) (a := a19) Pick.here ?_
  refine RH.one (i := 5) (by kernel_rfl) ?_
  refine RHone.eff rfl (Wanted.free rfl) (E.call rfl go32 rfl (fill_ok (a := a19) _ (by repeat (first | exact List.Mem.head _ | assumption | apply List.Mem.tail)) (by omega) (by omega))) rfl ?_
  rintro _ _ ⟨a22, c22, s22, hs22, rfl, rfl⟩
  refine ⟨.inr (by repeat (first | exact Ent.refl _ | (apply Ent.cons; (· repeat (first | exact Pick.here | (refine Pick.sl ?_; (· repeat (first | exact List.Mem.head _ | assumption | apply List.Mem.tail))) | apply Pick.there))) | (refine Ent.trans (Ent.drop _ _) ?_))), ?_⟩
  refine RH.publish (T := R8) (a := a22) Pick.here ?_
  refine RH.val 6 rfl (by kernel_rfl) (by kernel_rfl) (by kernel_rfl) (by kernel_rfl) (Wanted.free rfl) (V.assign rfl rfl) rfl ?_
  refine RH.done (by kernel_rfl) ?_
  refine SG.seq ?_
  refine SG.nest (by repeat (first | exact Pick.here | assumption | apply Pick.there)) hk fun ts a1 m1 c1 xs hF => ?_
  refine SG.buf (a := a1) (by repeat (first | exact Pick.here | assumption | apply Pick.there)) fun hm1 _ _ => ?_
  have htl := hF.len
  refine SG.drawN 17 16 (Blk t 55 [.slice (some ad) D.S.length c] :: Buf RTri 56 (some ad) D.S.length c ts :: Each (nown (Rep.slice R8) 32) xs :: Sl R8 a22 64 c22 s22 :: Dsk b D :: L1) wide rfl rfl (by repeat (first | exact Ent.refl _ | (apply Ent.cons; (· repeat (first | exact Pick.here | (refine Pick.sl ?_; (· repeat (first | exact List.Mem.head _ | assumption | apply List.Mem.tail))) | apply Pick.there))) | (refine Ent.trans (Ent.drop _ _) ?_))) ?_
  refine RH.val 0 rfl (by kernel_rfl) (by kernel_rfl) (by kernel_rfl) (by kernel_rfl) (Wanted.free rfl) (V.move rfl rfl) rfl ?_
  refine RH.val 1 rfl (by kernel_rfl) (by kernel_rfl) (by kernel_rfl) (by kernel_rfl) (Wanted.free rfl) (V.nilCheck rfl rfl) rfl ?_
  refine RH.val 2 rfl (by kernel_rfl) (by kernel_rfl) (by kernel_rfl) (by kernel_rfl) (Wanted.free rfl) (V.fieldAddr rfl rfl fo55_0) rfl ?_
  refine RH.val 3 rfl (by kernel_rfl) (by kernel_rfl) (by kernel_rfl) (by kernel_rfl) (Wanted.free rfl) (V.load rfl on53 rfl (by repeat (first | exact Pick.here | assumption | apply Pick.there)) rfl) rfl ?_
  refine RH.val 4 rfl (by kernel_rfl) (by kernel_rfl) (by kernel_rfl) (by kernel_rfl) (Wanted.free rfl) (V.move rfl rfl) rfl ?_
  refine RH.val 5 rfl (by kernel_rfl) (by kernel_rfl) (by kernel_rfl) (by kernel_rfl) (Wanted.free rfl) (V.move rfl rfl) rfl ?_
  refine RH.val 6 rfl (by kernel_rfl) (by kernel_rfl) (by kernel_rfl) (by kernel_rfl) (Wanted.free rfl) (V.nilCheck rfl rfl) rfl ?_
  refine RH.val 7 rfl (by kernel_rfl) (by kernel_rfl) (by kernel_rfl) (by kernel_rfl) (Wanted.free rfl) (V.fieldAddr rfl rfl fo55_0) rfl ?_
  refine RH.val 8 rfl (by kernel_rfl) (by kernel_rfl) (by kernel_rfl) (by kernel_rfl) (Wanted.free rfl) (V.load rfl on53 rfl (by repeat (first | exact Pick.here | assumption | apply Pick.there)) rfl) rfl ?_
  refine RH.val 9 rfl (by kernel_rfl) (by kernel_rfl) (by kernel_rfl) (by kernel_rfl) (Wanted.free rfl) (V.move rfl rfl) rfl ?_
  refine RH.val 10 rfl (by kernel_rfl) (by kernel_rfl) (by kernel_rfl) (by kernel_rfl) (Wanted.free rfl) (V.indexAd (j := kk) rfl el53.slice rfl rfl (by first | rfl | omega) (by omega)) rfl ?_
  refine RH.val 11 rfl (by kernel_rfl) (by kernel_rfl) (by kernel_rfl) (by kernel_rfl) (Wanted.free rfl) (V.loadTri rfl on56 rfl (by repeat (first | exact Pick.here | assumption | apply Pick.there)) hF.at_) rfl ?_
  refine RH.val 12 rfl (by kernel_rfl) (by kernel_rfl) (by kernel_rfl) (by kernel_rfl) (Wanted.free rfl) (V.move rfl rfl) rfl ?_
  refine RH.one (i := 13) (by kernel_rfl) ?_
  refine RHone.eff rfl (Wanted.free rfl) (E.lit1 _ rfl el56.slice ze32 rfl (by decide) (by decide) rfl rfl rfl) rfl ?_
  rintro _ _ ⟨b36, rfl, rfl⟩
  refine ⟨.inr (by repeat (first | exact Ent.refl _ | (apply Ent.cons; (· repeat (first | exact Pick.here | (refine Pick.sl ?_; (· repeat (first | exact List.Mem.head _ | assumption | apply List.Mem.tail))) | apply Pick.there))) | (refine Ent.trans (Ent.drop _ _) ?_))), ?_⟩
  refine RH.one (i := 14) (by kernel_rfl) ?_
  refine RHone.eff rfl (Wanted.free rfl) (E.append (T := (Rep.slice R8)) rfl rfl rfl el56 el56.noInt rfl rfl (by repeat (first | exact Pick.here | assumption | apply Pick.there)) (Src.litSl (by repeat (first | exact Pick.here | assumption | apply Pick.there)) (show Sl R8 a22 64 c22 s22 ∈ _ from (by repeat (first | exact List.Mem.head _ | assumption | apply List.Mem.tail)))) (by first | omega | (simp; omega)) (by first | omega | (simp; omega))) rfl ?_
  intro _ _ hK33
  try rw [List.nil_append] at hK33
  try rw [Nat.zero_add] at hK33
  obtain ⟨a37, c37, rfl, rfl⟩ := hK33
  refine ⟨.inr (by repeat (first | exact Ent.refl _ | (apply Ent.cons; (· repeat (first | exact Pick.here | (refine Pick.sl ?_; (· repeat (first | exact List.Mem.head _ | assumption | apply List.Mem.tail))) | apply Pick.there))) | (refine Ent.trans (Ent.drop _ _) ?_))), ?_⟩
  refine RH.val 15 rfl (by kernel_rfl) (by kernel_rfl) (by kernel_rfl) (by kernel_rfl) (Wanted.free rfl) (V.indexAd (j := kk) rfl el53.slice rfl rfl (by first | rfl | omega) (by omega)) rfl ?_
  refine RH.one (i := 16) (by kernel_rfl) ?_
  refine RHone.eff rfl (Wanted.free rfl) (E.storeBuf (T := RTri) (j := kk) (y := (a37, m1 + 1, c37)) [.slice a37 (m1 + 1) c37] rfl sz56 rfl rfl rfl (by repeat (first | exact Pick.here | assumption | apply Pick.there)) (by omega) (fun _ _ _ => ⟨rfl, trivial⟩)) rfl ?_
  rintro _ _ rfl
  refine ⟨.inl (by kernel_rfl), ?_⟩
  refine RH.done (by kernel_rfl) ?_
  refine SG.seq ?_
  refine SG.region ?_
  refine RL.val (Wanted.free rfl) (V.move rfl rfl) rfl ?_
  refine RL.val (Wanted.free rfl) (V.move rfl rfl) rfl ?_
  refine RL.val (Wanted.free rfl) (V.move rfl rfl) rfl ?_
  refine RL.eff (Wanted.free rfl) (E.call rfl go31 rfl (dWrite_ok hD (b := b) (by repeat (first | exact Pick.here | assumption | apply Pick.there)) _ (s := s22) (by repeat (first | exact List.Mem.head _ | assumption | apply List.Mem.tail)) (by omega))) rfl ?_
  rintro _ _ ⟨rfl, rfl⟩
  rw [hC.writeE (by omega) (by omega) hs22, hC.write (by omega) (by omega) hs22]
  refine RL.cmpT (Wanted.free rfl) (V.bin rfl rfl rfl B.eql) rfl rfl ?_
  refine RL.val (Wanted.free rfl) (V.assign rfl rfl) rfl ?_
  refine RL.nil ?_
  refine SG.retE (Ret.r1 Try.func25 rfl (.tmp rfl)) ?_ ⟨kk, s22, rfl, by omega, hs22, rfl⟩
  refine Ent.cons (by repeat (first | exact Pick.here | assumption | apply Pick.there)) ?_
  refine Trk.ent (ad := ad) (c := c) ?_
  rw [Dk.add_len]
  refine Ent.cons (by repeat (first | exact Pick.here | assumption | apply Pick.there)) ?_
  have e : (D.add kk s22).S = D.S.set kk (l ++ [s22]) := by rw [← hat]; rfl
  rw [e]
  refine Ent.trans ?_ (hF.put a37 (m1 + 1) c37 (l ++ [s22]) L1)
  repeat (first | exact Ent.refl _ | (apply Ent.cons; (· repeat (first | exact Pick.here | (refine Pick.sl ?_; (· repeat (first | exact List.Mem.head _ | assumption | apply List.Mem.tail))) | apply Pick.there))) | (refine Ent.trans (Ent.drop _ _) ?_))

set_option maxRecDepth 100000 in
theorem tFlush_ok {κ : World} {L : List Assn} {L1 : List Assn} {b t : Nat} {D : Dk} {m0 : Nat} (hD : D.ok m0) (hC : D.calm) (hp : Ent L (Dsk b D :: Trk t D.S :: L1)) (hm0 : m0 ≤ 900000) :
    Ctr Try.prog 26 #[ptr t 0, ptr b 0] κ L (fun v M => v = vB true ∧ M = Dsk b D.flushed :: Trk t D.flushed.S :: L1) := by
  refine Ctr.enter (vs := [ptr t 0, ptr b 0]) (m := 41) Try.func26 rfl rfl rfl ?_
  refine SG.ent hp ?_
  have hlen := hD.len
  refine SG.openT (t := t) (by repeat (first | exact Pick.here | assumption | apply Pick.there)) fun ad c => ?_
  refine SG.seq ?_
  refine SG.region ?_
  refine RL.val (Wanted.free rfl) (V.assign rfl rfl) rfl ?_
  refine RL.nil ?_
  refine SG.seq ?_
  refine SG.seq ?_
  refine SG.region ?_
  refine RL.val (Wanted.free rfl) (V.assign rfl rfl) rfl ?_
  refine RL.nil ?_
  refine SG.block ?_
  refine SG.weaken (SG.loop2 (fun m al M => ∃ i : Nat, i ≤ D.S.length ∧ m = D.S.length - i ∧ al = [(0, ptr t 0), (1, ptr b 0), (5, vI i)] ∧ M = Blk t 55 [.slice (some ad) D.S.length c] :: Nest (Rep.slice R8) 32 56 (some ad) D.S.length c (upTo (fun _ l => [lst l]) i D.S) :: Dsk b D :: L1) (m0 := _) ⟨0, by omega, rfl, rfl, rfl⟩ ?_) ?_ ?_
  rotate_left
  · repeat (first | exact EnvLe.nil _ | refine EnvLe.cons rfl ?_)
  · rw [upTo_zero]
    repeat (first | exact Ent.refl _ | (apply Ent.cons; (· repeat (first | exact Pick.here | (refine Pick.sl ?_; (· repeat (first | exact List.Mem.head _ | assumption | apply List.Mem.tail))) | apply Pick.there))) | (refine Ent.trans (Ent.drop _ _) ?_))
  rintro _ _ _ ⟨i, hi, rfl, rfl, rfl⟩ ih0
  refine SG.seq ?_
  refine SG.seq ?_
  refine SG.region ?_
  refine RL.val (Wanted.free rfl) (V.move rfl rfl) rfl ?_
  refine RL.val (Wanted.free rfl) (V.move rfl rfl) rfl ?_
  refine RL.val (Wanted.free rfl) (V.nilCheck rfl rfl) rfl ?_
  refine RL.val (Wanted.free rfl) (V.fieldAddr rfl rfl fo55_0) rfl ?_
  refine RL.val (Wanted.free rfl) (V.load rfl on53 rfl (by repeat (first | exact Pick.here | assumption | apply Pick.there)) rfl) rfl ?_
  refine RL.val (Wanted.free rfl) (V.len rfl rfl el53.under rfl) rfl ?_
  refine RL.cmp (Wanted.free rfl) (V.bin rfl rfl rfl B.lss) rfl (fun h9 => ?_) (fun h9 => ?_)
  · skip
    refine RL.nil ?_
    refine SG.cond_true rfl ?_
    refine SG.skip ?_
    refine SG.seq ?_
    refine SG.block ?_
    have hin : i < D.S.length := by omega
    have hk : D.S[i]? = some D.S[i] := List.getElem?_eq_getElem hin
    have hst := upTo_step (g := (fun _ l => [lst l])) hk
    have hcur : (upTo (fun _ l => [lst l]) i D.S)[i]? = some D.S[i] := by rw [upTo_get hk, if_neg (by omega)]
    obtain ⟨hl1, hl2, hl3⟩ := hD.all _ (mem_of hk)
    generalize D.S[i] = l at *
    refine SG.nest (by repeat (first | exact Pick.here | assumption | apply Pick.there)) hcur fun ts a1 m1 c1 xs hF => ?_
    refine SG.buf (a := a1) (by repeat (first | exact Pick.here | assumption | apply Pick.there)) fun hm1 hmc1 _ => ?_
    have htl := hF.len
    rw [upTo_len] at htl
    have hpos := List.length_pos_iff.2 hl1
    refine SG.drawL 24 23 wide rfl rfl ?_
    refine RH.val 0 rfl (by kernel_rfl) (by kernel_rfl) (by kernel_rfl) (by kernel_rfl) (Wanted.free rfl) (V.move rfl rfl) rfl ?_
    refine RH.val 1 rfl (by kernel_rfl) (by kernel_rfl) (by kernel_rfl) (by kernel_rfl) (Wanted.free rfl) (V.nilCheck rfl rfl) rfl ?_
    refine RH.val 2 rfl (by kernel_rfl) (by kernel_rfl) (by kernel_rfl) (by kernel_rfl) (Wanted.free rfl) (V.fieldAddr rfl rfl fo55_0) rfl ?_
    refine RH.val 3 rfl (by kernel_rfl) (by kernel_rfl) (by kernel_rfl) (by kernel_rfl) (Wanted.free rfl) (V.load rfl on53 rfl (by repeat (first | exact Pick.here | assumption | apply Pick.there)) rfl) rfl ?_
    refine RH.val 4 rfl (by kernel_rfl) (by kernel_rfl) (by kernel_rfl) (by kernel_rfl) (Wanted.free rfl) (V.move rfl rfl) rfl ?_
    refine RH.val 5 rfl (by kernel_rfl) (by kernel_rfl) (by kernel_rfl) (by kernel_rfl) (Wanted.free rfl) (V.move rfl rfl) rfl ?_
    refine RH.val 6 rfl (by kernel_rfl) (by kernel_rfl) (by kernel_rfl) (by kernel_rfl) (Wanted.free rfl) (V.nilCheck rfl rfl) rfl ?_
    refine RH.val 7 rfl (by kernel_rfl) (by kernel_rfl) (by kernel_rfl) (by kernel_rfl) (Wanted.free rfl) (V.fieldAddr rfl rfl fo55_0) rfl ?_
    refine RH.val 8 rfl (by kernel_rfl) (by kernel_rfl) (by kernel_rfl) (by kernel_rfl) (Wanted.free rfl) (V.load rfl on53 rfl (by repeat (first | exact Pick.here | assumption | apply Pick.there)) rfl) rfl ?_
    refine RH.val 9 rfl (by kernel_rfl) (by kernel_rfl) (by kernel_rfl) (by kernel_rfl) (Wanted.free rfl) (V.move rfl rfl) rfl ?_
    refine RH.val 10 rfl (by kernel_rfl) (by kernel_rfl) (by kernel_rfl) (by kernel_rfl) (Wanted.free rfl) (V.indexAd (j := i) rfl el53.slice rfl rfl (by first | rfl | omega) (by omega)) rfl ?_
    refine RH.val 11 rfl (by kernel_rfl) (by kernel_rfl) (by kernel_rfl) (by kernel_rfl) (Wanted.free rfl) (V.loadTri rfl on56 rfl (by repeat (first | exact Pick.here | assumption | apply Pick.there)) hF.at_) rfl ?_
    refine RH.val 12 rfl (by kernel_rfl) (by kernel_rfl) (by kernel_rfl) (by kernel_rfl) (Wanted.free rfl) (V.move rfl rfl) rfl ?_
    refine RH.val 13 rfl (by kernel_rfl) (by kernel_rfl) (by kernel_rfl) (by kernel_rfl) (Wanted.free rfl) (V.nilCheck rfl rfl) rfl ?_
    refine RH.val 14 rfl (by kernel_rfl) (by kernel_rfl) (by kernel_rfl) (by kernel_rfl) (Wanted.free rfl) (V.fieldAddr rfl rfl fo55_0) rfl ?_
    refine RH.val 15 rfl (by kernel_rfl) (by kernel_rfl) (by kernel_rfl) (by kernel_rfl) (Wanted.free rfl) (V.load rfl on53 rfl (by repeat (first | exact Pick.here | assumption | apply Pick.there)) rfl) rfl ?_
    refine RH.val 16 rfl (by kernel_rfl) (by kernel_rfl) (by kernel_rfl) (by kernel_rfl) (Wanted.free rfl) (V.move rfl rfl) rfl ?_
    refine RH.val 17 rfl (by kernel_rfl) (by kernel_rfl) (by kernel_rfl) (by kernel_rfl) (Wanted.free rfl) (V.indexAd (j := i) rfl el53.slice rfl rfl (by first | rfl | omega) (by omega)) rfl ?_
    refine RH.val 18 rfl (by kernel_rfl) (by kernel_rfl) (by kernel_rfl) (by kernel_rfl) (Wanted.free rfl) (V.loadTri rfl on56 rfl (by repeat (first | exact Pick.here | assumption | apply Pick.there)) hF.at_) rfl ?_
    refine RH.val 19 rfl (by kernel_rfl) (by kernel_rfl) (by kernel_rfl) (by kernel_rfl) (Wanted.free rfl) (V.len rfl rfl el56.under rfl) rfl ?_
    refine RH.val 20 rfl (by kernel_rfl) (by kernel_rfl) (by kernel_rfl) (by kernel_rfl) (Wanted.free rfl) (V.bin rfl rfl rfl (B.subI (by omega) (by omega))) rfl ?_
    refine RH.val 21 rfl (by kernel_rfl) (by kernel_rfl) (by kernel_rfl) (by kernel_rfl) (Wanted.free rfl) (V.slice (T := (Rep.slice R8)) (lo := m1 - 1) rfl el56.slice rfl ⟨_, _, rfl, (by first | rfl | omega)⟩ rfl (by omega) (by omega)) rfl ?_
    refine RH.val 22 rfl (by kernel_rfl) (by kernel_rfl) (by kernel_rfl) (by kernel_rfl) (Wanted.free rfl) (V.indexAd (j := i) rfl el53.slice rfl rfl (by first | rfl | omega) (by omega)) rfl ?_
    refine RH.one (i := 23) (by kernel_rfl) ?_
    refine RHone.eff rfl (Wanted.free rfl) (E.storeBuf (T := RTri) (j := i) (y := (cutA a1 (m1 - 1) (Rep.slice R8).sz c1, m1 - (m1 - 1), c1 - (m1 - 1))) [.slice (cutA a1 (m1 - 1) (Rep.slice R8).sz c1) (m1 - (m1 - 1)) (c1 - (m1 - 1))] rfl sz56 rfl rfl rfl (by repeat (first | exact Pick.here | assumption | apply Pick.there)) (by omega) (fun _ _ _ => ⟨rfl, trivial⟩)) rfl ?_
    rintro _ _ rfl
    refine ⟨.inl (by kernel_rfl), ?_⟩
    refine RH.done (by kernel_rfl) ?_
    refine SG.inBlock ?_
    refine SG.region ?_
    refine RL.val (Wanted.free rfl) (V.move rfl rfl) rfl ?_
    refine RL.val (Wanted.free rfl) (V.bin rfl rfl rfl (B.addI (by omega) (by omega))) rfl ?_
    refine RL.val (Wanted.free rfl) (V.assign rfl rfl) rfl ?_
    refine RL.nil ?_
    refine SG.ent (Ent.trans (b := Buf (Rep.slice R8) 32 a1 m1 c1 l :: _) (by repeat (first | exact Pick.here | assumption | apply Pick.there)) (Buf.cutFront (lo := m1 - 1) (by omega) (by omega))) ?_
    rw [show l.drop (m1 - 1) = [lst l] from by rw [← hm1]; exact lst_drop hl1]
    refine SG.weaken (ih0 _ _ _ ?_ ⟨i + 1, by omega, rfl, rfl, rfl⟩) ?_ ?_
    · omega
    · repeat (first | exact EnvLe.nil _ | refine EnvLe.cons rfl ?_)
    · rw [hst]
      refine Ent.cons (by repeat (first | exact Pick.here | assumption | apply Pick.there)) ?_
      refine Ent.trans ?_ (hF.put (cutA a1 (m1 - 1) (Rep.slice R8).sz c1) (m1 - (m1 - 1)) (c1 - (m1 - 1)) [lst l] (Dsk b D :: L1))
      repeat (first | exact Ent.refl _ | (apply Ent.cons; (· repeat (first | exact Pick.here | (refine Pick.sl ?_; (· repeat (first | exact List.Mem.head _ | assumption | apply List.Mem.tail))) | apply Pick.there))) | (refine Ent.trans (Ent.drop _ _) ?_))
  · skip
    refine RL.nil ?_
    refine SG.cond_false rfl ?_
    refine SG.exit rfl ?_
    refine SG.seq ?_
    obtain rfl : i = D.S.length := by omega
    rw [upTo_all (Nat.le_refl _), mapIdx_map]
    refine SG.region ?_
    refine RL.val (Wanted.free rfl) (V.move rfl rfl) rfl ?_
    refine RL.eff (Wanted.free rfl) (E.call rfl go30 rfl (dFlush_ok hD (b := b) (by repeat (first | exact Pick.here | assumption | apply Pick.there)) (by omega))) rfl ?_
    rintro _ _ ⟨rfl, rfl⟩
    rw [hC.flushE, hC.flush]
    refine RL.cmpT (Wanted.free rfl) (V.bin rfl rfl rfl B.eql) rfl rfl ?_
    refine RL.val (Wanted.free rfl) (V.assign rfl rfl) rfl ?_
    refine RL.nil ?_
    refine SG.retE (Ret.r1 Try.func26 rfl (.tmp rfl)) ?_ ⟨rfl, rfl⟩
    refine Ent.cons (by repeat (first | exact Pick.here | assumption | apply Pick.there)) ?_
    refine Trk.ent (ad := ad) (c := c) ?_
    rw [flushed_len]
    repeat (first | exact Ent.refl _ | (apply Ent.cons; (· repeat (first | exact Pick.here | (refine Pick.sl ?_; (· repeat (first | exact List.Mem.head _ | assumption | apply List.Mem.tail))) | apply Pick.there))) | (refine Ent.trans (Ent.drop _ _) ?_))

set_option maxRecDepth 100000 in
theorem prefix_ok {κ : World} {L : List Assn} {a a1 a2 : Option Addr} {m0 c m1 c1 m2 c2 : Nat} {bb ff tt : Sec} (hb : Sl R8 a m0 c bb ∈ L) (hf : Sl R8 a1 m1 c1 ff ∈ L) (ht : Sl R8 a2 m2 c2 tt ∈ L) (hb4 : bb.length = 64) (hf4 : ff.length = 64) (ht4 : tt.length = 64) :
    Ctr Try.prog 28 #[.slice a m0 c, .slice a1 m1 c1, .slice a2 m2 c2] κ L (fun v M => ∃ p : Bool, v = vB p ∧ (Mixed bb ff tt → p = true) ∧ M = L) := by
  refine Ctr.enter (vs := [.slice a m0 c, .slice a1 m1 c1, .slice a2 m2 c2]) (m := 38) Try.func28 rfl rfl rfl ?_
  refine SG.seq ?_
  refine SG.region ?_
  refine RL.val (Wanted.free rfl) (V.assign rfl rfl) rfl ?_
  refine RL.nil ?_
  refine SG.seq ?_
  refine SG.region ?_
  refine RL.val (Wanted.free rfl) (V.assign rfl rfl) rfl ?_
  refine RL.nil ?_
  refine SG.seq ?_
  refine SG.join (ι := Nat) (fun n => [(0, .slice a m0 c), (1, .slice a1 m1 c1), (2, .slice a2 m2 c2), (7, vI n)]) (fun n => L) (fun n => n ≤ 64 ∧ (n < 64 → bb[n]? ≠ ff[n]?)) ?_ (fun rest => ?_)
  · rintro n ⟨hn, hne⟩
    try dsimp only
    refine SG.seq ?_
    refine SG.seq ?_
    refine SG.region ?_
    refine RL.val (Wanted.free rfl) (V.move rfl rfl) rfl ?_
    refine RL.val (Wanted.free rfl) (V.assign rfl rfl) rfl ?_
    refine RL.nil ?_
    refine SG.block ?_
    refine SG.weaken (SG.loop2 (fun m al M => ∃ j : Nat, n ≤ j ∧ j ≤ 64 ∧ m = 64 - j ∧ al = [(0, .slice a m0 c), (1, .slice a1 m1 c1), (2, .slice a2 m2 c2), (8, vI j)] ∧ M = L) (m0 := _) ⟨n, by omega, by omega, rfl, rfl, rfl⟩ ?_) ?_ ?_
    rotate_left
    · repeat (first | exact EnvLe.nil _ | refine EnvLe.cons rfl ?_)
    · repeat (first | exact Ent.refl _ | (apply Ent.cons; (· repeat (first | exact Pick.here | (refine Pick.sl ?_; (· repeat (first | exact List.Mem.head _ | assumption | apply List.Mem.tail))) | apply Pick.there))) | (refine Ent.trans (Ent.drop _ _) ?_))
    rintro _ _ _ ⟨j, hnj, hj, rfl, rfl, rfl⟩ ih0
    refine SG.seq ?_
    refine SG.seq ?_
    refine SG.region ?_
    refine RL.val (Wanted.free rfl) (V.move rfl rfl) rfl ?_
    refine RL.cmp (Wanted.free rfl) (V.bin rfl rfl rfl B.lss) rfl (fun h6 => ?_) (fun h6 => ?_)
    · skip
      refine RL.nil ?_
      refine SG.cond_true rfl ?_
      refine SG.skip ?_
      refine SG.seq ?_
      refine SG.block ?_
      refine SG.seq ?_
      refine SG.drawL 9 9 wide rfl rfl ?_
      refine RH.val 0 rfl (by kernel_rfl) (by kernel_rfl) (by kernel_rfl) (by kernel_rfl) (Wanted.free rfl) (V.move rfl rfl) rfl ?_
      refine RH.val 1 rfl (by kernel_rfl) (by kernel_rfl) (by kernel_rfl) (by kernel_rfl) (Wanted.free rfl) (V.move rfl rfl) rfl ?_
      refine RH.val 2 rfl (by kernel_rfl) (by kernel_rfl) (by kernel_rfl) (by kernel_rfl) (Wanted.free rfl) (V.indexSl (j := j) rfl el32.slice rfl rfl (by repeat (first | exact List.Mem.head _ | assumption | apply List.Mem.tail)) (by first | rfl | omega) (by omega)) rfl ?_
      refine RH.val 3 rfl (by kernel_rfl) (by kernel_rfl) (by kernel_rfl) (by kernel_rfl) (Wanted.free rfl) (V.loadSc rfl on5 rfl (by repeat (first | exact List.Mem.head _ | assumption | apply List.Mem.tail)) (List.getElem?_eq_getElem (by omega))) rfl ?_
      refine RH.val 4 rfl (by kernel_rfl) (by kernel_rfl) (by kernel_rfl) (by kernel_rfl) (Wanted.free rfl) (V.move rfl rfl) rfl ?_
      refine RH.val 5 rfl (by kernel_rfl) (by kernel_rfl) (by kernel_rfl) (by kernel_rfl) (Wanted.free rfl) (V.move rfl rfl) rfl ?_
      refine RH.val 6 rfl (by kernel_rfl) (by kernel_rfl) (by kernel_rfl) (by kernel_rfl) (Wanted.free rfl) (V.indexSl (j := j) rfl el32.slice rfl rfl (by repeat (first | exact List.Mem.head _ | assumption | apply List.Mem.tail)) (by first | rfl | omega) (by omega)) rfl ?_
      refine RH.val 7 rfl (by kernel_rfl) (by kernel_rfl) (by kernel_rfl) (by kernel_rfl) (Wanted.free rfl) (V.loadSc rfl on5 rfl (by repeat (first | exact List.Mem.head _ | assumption | apply List.Mem.tail)) (List.getElem?_eq_getElem (by omega))) rfl ?_
      refine RH.cmp 8 rfl (by kernel_rfl) (by kernel_rfl) (by kernel_rfl) (by kernel_rfl) (Wanted.free rfl) (V.bin rfl rfl rfl B.neq) rfl (fun h15 => ?_) (fun h15 => ?_)
      · skip
        have hbad := h15
        refine RH.done (by kernel_rfl) ?_
        refine SG.cond_true rfl ?_
        refine SG.seq ?_
        refine SG.region ?_
        refine RL.val (Wanted.free rfl) (V.assign rfl rfl) rfl ?_
        refine RL.nil ?_
        have hno : Mixed bb ff tt → false = true := fun hM => by
          have h1 := hM.get hf4 ht4 (n := n) (j := j) (by omega) (by omega) (by omega) (hne (by omega))
          rw [List.getElem?_eq_getElem (by omega), List.getElem?_eq_getElem (by omega)] at h1
          exact absurd (by rw [Option.some.inj h1]) hbad
        refine SG.retE (Ret.r1 Try.func28 rfl (.tmp rfl)) ?_ ⟨false, rfl, hno, rfl⟩
        repeat (first | exact Ent.refl _ | (apply Ent.cons; (· repeat (first | exact Pick.here | (refine Pick.sl ?_; (· repeat (first | exact List.Mem.head _ | assumption | apply List.Mem.tail))) | apply Pick.there))) | (refine Ent.trans (Ent.drop _ _) ?_))
      · skip
        refine RH.done (by kernel_rfl) ?_
        refine SG.cond_false rfl ?_
        refine SG.skip ?_
        refine SG.inBlock ?_
        refine SG.region ?_
        refine RL.val (Wanted.free rfl) (V.move rfl rfl) rfl ?_
        refine RL.val (Wanted.free rfl) (V.bin rfl rfl rfl (B.addI (by omega) (by omega))) rfl ?_
        refine RL.val (Wanted.free rfl) (V.assign rfl rfl) rfl ?_
        refine RL.nil ?_
        refine SG.weaken (ih0 _ _ _ ?_ ⟨j + 1, by omega, by omega, rfl, rfl, rfl⟩) ?_ ?_
        · omega
        · repeat (first | exact EnvLe.nil _ | refine EnvLe.cons rfl ?_)
        · repeat (first | exact Ent.refl _ | (apply Ent.cons; (· repeat (first | exact Pick.here | (refine Pick.sl ?_; (· repeat (first | exact List.Mem.head _ | assumption | apply List.Mem.tail))) | apply Pick.there))) | (refine Ent.trans (Ent.drop _ _) ?_))
    · skip
      refine RL.nil ?_
      refine SG.cond_false rfl ?_
      refine SG.exit rfl ?_
      refine SG.seq ?_
      refine SG.region ?_
      refine RL.val (Wanted.free rfl) (V.assign rfl rfl) rfl ?_
      refine RL.nil ?_
      refine SG.retE (Ret.r1 Try.func28 rfl (.tmp rfl)) ?_ ⟨true, rfl, fun _ => rfl, rfl⟩
      repeat (first | exact Ent.refl _ | (apply Ent.cons; (· repeat (first | exact Pick.here | (refine Pick.sl ?_; (· repeat (first | exact List.Mem.head _ | assumption | apply List.Mem.tail))) | apply Pick.there))) | (refine Ent.trans (Ent.drop _ _) ?_))
  · skip
    refine SG.block ?_
    refine SG.weaken (SG.loop2 (fun m al M => ∃ i : Nat, i ≤ 64 ∧ m = 64 - i ∧ al = [(0, .slice a m0 c), (1, .slice a1 m1 c1), (2, .slice a2 m2 c2), (7, vI i)] ∧ M = L) (m0 := _) ⟨0, by omega, rfl, rfl, rfl⟩ ?_) ?_ ?_
    rotate_left
    · repeat (first | exact EnvLe.nil _ | refine EnvLe.cons rfl ?_)
    · repeat (first | exact Ent.refl _ | (apply Ent.cons; (· repeat (first | exact Pick.here | (refine Pick.sl ?_; (· repeat (first | exact List.Mem.head _ | assumption | apply List.Mem.tail))) | apply Pick.there))) | (refine Ent.trans (Ent.drop _ _) ?_))
    rintro _ _ _ ⟨i, hi, rfl, rfl, rfl⟩ ih1
    refine SG.seq ?_
    refine SG.seq ?_
    refine SG.drawL 13 13 wide rfl rfl ?_
    refine RH.val 0 rfl (by kernel_rfl) (by kernel_rfl) (by kernel_rfl) (by kernel_rfl) (Wanted.free rfl) (V.move rfl rfl) rfl ?_
    refine RH.cmp 1 rfl (by kernel_rfl) (by kernel_rfl) (by kernel_rfl) (by kernel_rfl) (Wanted.free rfl) (V.bin rfl rfl rfl B.lss) rfl (fun h22 => ?_) (fun h22 => ?_)
    · skip
      refine RH.val 2 rfl (by kernel_rfl) (by kernel_rfl) (by kernel_rfl) (by kernel_rfl) (Wanted.free rfl) (V.move rfl rfl) rfl ?_
      refine RH.val 3 rfl (by kernel_rfl) (by kernel_rfl) (by kernel_rfl) (by kernel_rfl) (Wanted.yes rfl rfl rfl rfl) (V.move rfl rfl) rfl ?_
      refine RH.val 4 rfl (by kernel_rfl) (by kernel_rfl) (by kernel_rfl) (by kernel_rfl) (Wanted.yes rfl rfl rfl rfl) (V.move rfl rfl) rfl ?_
      refine RH.val 5 rfl (by kernel_rfl) (by kernel_rfl) (by kernel_rfl) (by kernel_rfl) (Wanted.yes rfl rfl rfl rfl) (V.indexSl (j := i) rfl el32.slice rfl rfl (by repeat (first | exact List.Mem.head _ | assumption | apply List.Mem.tail)) (by first | rfl | omega) (by omega)) rfl ?_
      refine RH.val 6 rfl (by kernel_rfl) (by kernel_rfl) (by kernel_rfl) (by kernel_rfl) (Wanted.yes rfl rfl rfl rfl) (V.loadSc rfl on5 rfl (by repeat (first | exact List.Mem.head _ | assumption | apply List.Mem.tail)) (List.getElem?_eq_getElem (by omega))) rfl ?_
      refine RH.val 7 rfl (by kernel_rfl) (by kernel_rfl) (by kernel_rfl) (by kernel_rfl) (Wanted.yes rfl rfl rfl rfl) (V.move rfl rfl) rfl ?_
      refine RH.val 8 rfl (by kernel_rfl) (by kernel_rfl) (by kernel_rfl) (by kernel_rfl) (Wanted.yes rfl rfl rfl rfl) (V.move rfl rfl) rfl ?_
      refine RH.val 9 rfl (by kernel_rfl) (by kernel_rfl) (by kernel_rfl) (by kernel_rfl) (Wanted.yes rfl rfl rfl rfl) (V.indexSl (j := i) rfl el32.slice rfl rfl (by repeat (first | exact List.Mem.head _ | assumption | apply List.Mem.tail)) (by first | rfl | omega) (by omega)) rfl ?_
      refine RH.val 10 rfl (by kernel_rfl) (by kernel_rfl) (by kernel_rfl) (by kernel_rfl) (Wanted.yes rfl rfl rfl rfl) (V.loadSc rfl on5 rfl (by repeat (first | exact List.Mem.head _ | assumption | apply List.Mem.tail)) (List.getElem?_eq_getElem (by omega))) rfl ?_
      refine RH.cmp 11 rfl (by kernel_rfl) (by kernel_rfl) (by kernel_rfl) (by kernel_rfl) (Wanted.yes rfl rfl rfl rfl) (V.bin rfl rfl rfl B.eql) rfl (fun h32 => ?_) (fun h32 => ?_)
      · skip
        refine RH.pure 12 rfl (by kernel_rfl) (by kernel_rfl) (by kernel_rfl) (by kernel_rfl) (Wanted.free rfl) (V.pick_true rfl rfl rfl) rfl ?_
        refine RH.done (by kernel_rfl) ?_
        refine SG.cond_true rfl ?_
        refine SG.skip ?_
        refine SG.block ?_
        refine SG.region ?_
        refine RL.val (Wanted.free rfl) (V.move rfl rfl) rfl ?_
        refine RL.val (Wanted.free rfl) (V.bin rfl rfl rfl (B.addI (by omega) (by omega))) rfl ?_
        refine RL.val (Wanted.free rfl) (V.assign rfl rfl) rfl ?_
        refine RL.nil ?_
        refine SG.inBlock ?_
        refine SG.weaken (ih1 _ _ _ ?_ ⟨i + 1, by omega, rfl, rfl, rfl⟩) ?_ ?_
        · omega
        · repeat (first | exact EnvLe.nil _ | refine EnvLe.cons rfl ?_)
        · repeat (first | exact Ent.refl _ | (apply Ent.cons; (· repeat (first | exact Pick.here | (refine Pick.sl ?_; (· repeat (first | exact List.Mem.head _ | assumption | apply List.Mem.tail))) | apply Pick.there))) | (refine Ent.trans (Ent.drop _ _) ?_))
      · skip
        refine RH.pure 12 rfl (by kernel_rfl) (by kernel_rfl) (by kernel_rfl) (by kernel_rfl) (Wanted.free rfl) (V.pick_true rfl rfl rfl) rfl ?_
        refine RH.done (by kernel_rfl) ?_
        refine SG.cond_false rfl ?_
        refine SG.exit rfl ?_
        refine SG.weaken (rest i ⟨by omega, fun _ => by rw [List.getElem?_eq_getElem (by omega), List.getElem?_eq_getElem (by omega)]; intro e; have := Option.some.inj e; simp_all⟩) ?_ ?_
        · repeat (first | exact EnvLe.nil _ | refine EnvLe.cons rfl ?_)
        · repeat (first | exact Ent.refl _ | (apply Ent.cons; (· repeat (first | exact Pick.here | (refine Pick.sl ?_; (· repeat (first | exact List.Mem.head _ | assumption | apply List.Mem.tail))) | apply Pick.there))) | (refine Ent.trans (Ent.drop _ _) ?_))
    · skip
      refine RH.val 2 rfl (by kernel_rfl) (by kernel_rfl) (by kernel_rfl) (by kernel_rfl) (Wanted.free rfl) (V.move rfl rfl) rfl ?_
      refine RH.skip 3 rfl (by kernel_rfl) (by kernel_rfl) (by kernel_rfl) (by kernel_rfl) (Wanted.no rfl rfl rfl rfl rfl) rfl ?_
      refine RH.skip 4 rfl (by kernel_rfl) (by kernel_rfl) (by kernel_rfl) (by kernel_rfl) (Wanted.no rfl rfl rfl rfl rfl) rfl ?_
      refine RH.skip 5 rfl (by kernel_rfl) (by kernel_rfl) (by kernel_rfl) (by kernel_rfl) (Wanted.no rfl rfl rfl rfl rfl) rfl ?_
      refine RH.skip 6 rfl (by kernel_rfl) (by kernel_rfl) (by kernel_rfl) (by kernel_rfl) (Wanted.no rfl rfl rfl rfl rfl) rfl ?_
      refine RH.skip 7 rfl (by kernel_rfl) (by kernel_rfl) (by kernel_rfl) (by kernel_rfl) (Wanted.no rfl rfl rfl rfl rfl) rfl ?_
      refine RH.skip 8 rfl (by kernel_rfl) (by kernel_rfl) (by kernel_rfl) (by kernel_rfl) (Wanted.no rfl rfl rfl rfl rfl) rfl ?_
      refine RH.skip 9 rfl (by kernel_rfl) (by kernel_rfl) (by kernel_rfl) (by kernel_rfl) (Wanted.no rfl rfl rfl rfl rfl) rfl ?_
      refine RH.skip 10 rfl (by kernel_rfl) (by kernel_rfl) (by kernel_rfl) (by kernel_rfl) (Wanted.no rfl rfl rfl rfl rfl) rfl ?_
      refine RH.skip 11 rfl (by kernel_rfl) (by kernel_rfl) (by kernel_rfl) (by kernel_rfl) (Wanted.no rfl rfl rfl rfl rfl) rfl ?_
      refine RH.pure 12 rfl (by kernel_rfl) (by kernel_rfl) (by kernel_rfl) (by kernel_rfl) (Wanted.free rfl) (V.pick_false rfl rfl rfl) rfl ?_
      refine RH.done (by kernel_rfl) ?_
      refine SG.cond_false rfl ?_
      refine SG.exit rfl ?_
      refine SG.weaken (rest i ⟨by omega, fun h => by omega⟩) ?_ ?_
      · repeat (first | exact EnvLe.nil _ | refine EnvLe.cons rfl ?_)
      · repeat (first | exact Ent.refl _ | (apply Ent.cons; (· repeat (first | exact Pick.here | (refine Pick.sl ?_; (· repeat (first | exact List.Mem.head _ | assumption | apply List.Mem.tail))) | apply Pick.there))) | (refine Ent.trans (Ent.drop _ _) ?_))

set_option maxRecDepth 100000 in
set_option maxHeartbeats 4000000 in
theorem survives_law {κ : World} {L : List Assn} {a : Option Addr} {n0 c0 : Nat} {os : List OpD} (n : Int) (h1 : -9223372036854775808 ≤ n) (h2 : n ≤ 9223372036854775807) (hm : Sl ROp a n0 c0 os ∈ L) :
    Ctr Try.prog 5 #[vI n, .slice a n0 c0] κ L (fun v M => v = vB true ∧ M = L) := by
  refine Ctr.enter (vs := [vI n, .slice a n0 c0]) (m := 170) Try.func5 rfl rfl rfl ?_
  obtain ⟨q, hq, hq2⟩ := aroundV_nat (n := n) (most := 16) (by omega)
  refine SG.sl hm fun hl hlc hc63 => ?_
  subst hl
  have hfr := fresh_ok (n := 1 + q) (by omega) (by omega)
  refine SG.seq ?_
  refine SG.region ?_
  refine RL.val (Wanted.free rfl) (V.assign rfl rfl) rfl ?_
  refine RL.nil ?_
  refine SG.seq ?_
  refine SG.region ?_
  refine RL.val (Wanted.free rfl) (V.move rfl rfl) rfl ?_
  refine RL.eff (Wanted.free rfl) (E.call rfl go24 rfl (tracked_ok h1 h2 hq hq2)) rfl ?_
  rintro _ _ ⟨b, t, rfl, rfl⟩
  refine RL.val (Wanted.free rfl) (V.move rfl rfl) rfl ?_
  refine RL.val (Wanted.free rfl) (V.extract rfl rfl rfl) rfl ?_
  refine RL.val (Wanted.free rfl) (V.extract rfl rfl rfl) rfl ?_
  refine RL.val (Wanted.free rfl) (V.assign rfl rfl) rfl ?_
  refine RL.val (Wanted.free rfl) (V.assign rfl rfl) rfl ?_
  refine RL.nil ?_
  refine SG.seq ?_
  refine SG.seq ?_
  refine SG.region ?_
  refine RL.val (Wanted.free rfl) (V.move rfl rfl) rfl ?_
  refine RL.cmpF (Wanted.free rfl) (V.eqlPtrNil rfl up23 rfl rfl) rfl (by simp) ?_
  refine RL.nil ?_
  refine SG.cond_false rfl ?_
  refine SG.skip ?_
  refine SG.seq ?_
  refine SG.seq ?_
  refine SG.region ?_
  refine RL.val (Wanted.free rfl) (V.assign rfl rfl) rfl ?_
  refine RL.nil ?_
  refine SG.block ?_
  refine SG.weaken (SG.loop2 (fun m al M => ∃ (i : Nat) (D : Dk), i ≤ os.length ∧ i ≤ 60 ∧ m = 60 - i ∧ D.ok (i + 1) ∧ D.calm ∧ al = [(1, .slice a os.length c0), (5, ptr b 0), (6, ptr t 0), (7, vI i)] ∧ M = Dsk b D :: Trk t D.S :: L) (m0 := _) ⟨0, _, by omega, by omega, rfl, hfr, fresh_calm _, rfl, rfl⟩ ?_) ?_ ?_
  rotate_left
  · repeat (first | exact EnvLe.nil _ | refine EnvLe.cons rfl ?_)
  · repeat (first | exact Ent.refl _ | (apply Ent.cons; (· repeat (first | exact Pick.here | (refine Pick.sl ?_; (· repeat (first | exact List.Mem.head _ | assumption | apply List.Mem.tail))) | apply Pick.there))) | (refine Ent.trans (Ent.drop _ _) ?_))
  rintro _ _ _ ⟨i, D, hi, hi60, rfl, hD, hC, rfl, rfl⟩ ih0
  refine SG.seq ?_
  refine SG.seq ?_
  refine SG.region ?_
  refine RL.val (Wanted.free rfl) (V.move rfl rfl) rfl ?_
  refine RL.val (Wanted.free rfl) (V.move rfl rfl) rfl ?_
  refine RL.val (Wanted.free rfl) (V.len rfl rfl el22.under rfl) rfl ?_
  refine RL.cmp (Wanted.free rfl) (V.bin rfl rfl rfl B.lss) rfl (fun h14 => ?_) (fun h14 => ?_)
  · skip
    refine RL.val (Wanted.free rfl) (V.move rfl rfl) rfl ?_
    refine RL.val (Wanted.yes rfl rfl rfl rfl) (V.move rfl rfl) rfl ?_
    refine RL.cmp (Wanted.yes rfl rfl rfl rfl) (V.bin rfl rfl rfl B.lss) rfl (fun h17 => ?_) (fun h17 => ?_)
    · skip
      refine RL.val (Wanted.free rfl) (V.pick_true rfl rfl rfl) rfl ?_
      refine RL.nil ?_
      refine SG.cond_true rfl ?_
      refine SG.skip ?_
      refine SG.seq ?_
      refine SG.block ?_
      refine SG.seq ?_
      refine SG.seq ?_
      refine SG.elemOp (a := a) (by repeat (first | exact List.Mem.head _ | assumption | apply List.Mem.tail)) (show os[i]? = some os[i] from List.getElem?_eq_getElem (by omega)) fun ab mb cb al0 ml cl hok => ?_
      have hok2 := hok
      obtain ⟨ho1, ho2, ho3⟩ := hok
      unfold inInt at ho1 ho2 ho3
      have hlen := hD.len
      obtain ⟨kk, hkk, hkk2⟩ := aroundV_nat (n := os[i].kind) (most := 4) (by omega)
      refine SG.region ?_
      refine RL.val (Wanted.free rfl) (V.move rfl rfl) rfl ?_
      refine RL.val (Wanted.free rfl) (V.move rfl rfl) rfl ?_
      refine RL.val (Wanted.free rfl) (V.indexSl (j := i) rfl el22.slice rfl rfl (by repeat (first | exact List.Mem.head _ | assumption | apply List.Mem.tail)) (by first | rfl | omega) (by omega)) rfl ?_
      refine RL.val (Wanted.free rfl) (V.fieldAt rfl rfl fo35_0 (by repeat (first | exact List.Mem.head _ | assumption | apply List.Mem.tail))) rfl ?_
      refine RL.val (Wanted.free rfl) (V.loadAtF rfl on3 rfl (by repeat (first | exact List.Mem.head _ | assumption | apply List.Mem.tail)) rfl) rfl ?_
      refine RL.eff (Wanted.free rfl) (E.call rfl go14 rfl (around_ok _ _ (by omega) (by omega) (by omega))) rfl ?_
      rintro _ _ ⟨rfl, rfl⟩
      rw [hkk]
      refine RL.nil ?_
      refine SG.join (ι := Dk × List (List Sec) × (Nat → List Sec → List Sec)) (fun ⟨D2, T, g⟩ => [(1, .slice a os.length c0), (5, ptr b 0), (6, ptr t 0), (7, vI i)]) (fun ⟨D2, T, g⟩ => Dsk b D2 :: Trk t T :: Sl R8 ab mb cb os[i].b :: Sl RTorn al0 ml cl os[i].l :: At a (i * 5) [vI os[i].kind, vI os[i].k, vI os[i].n, .slice ab mb cb, .slice al0 ml cl] :: L) (fun ⟨D2, T, g⟩ => Act1 D2 T g i kk) ?_ (fun rest => ?_)
      · rintro ⟨D2, T, g⟩ hA
        try dsimp only
        have hTl := hA.len
        have hlen2 := hA.ok.len
        refine SG.seq ?_
        refine SG.region ?_
        refine RL.val (Wanted.free rfl) (V.assign rfl rfl) rfl ?_
        refine RL.nil ?_
        refine SG.block ?_
        refine SG.weaken (SG.loop2 (fun m al M => ∃ j : Nat, j ≤ T.length ∧ m = T.length - j ∧ al = [(1, .slice a os.length c0), (5, ptr b 0), (6, ptr t 0), (7, vI i), (8, vI j)] ∧ M = Dsk b D2 :: Trk t (upTo g j T) :: Sl R8 ab mb cb os[i].b :: Sl RTorn al0 ml cl os[i].l :: At a (i * 5) [vI os[i].kind, vI os[i].k, vI os[i].n, .slice ab mb cb, .slice al0 ml cl] :: L) (m0 := _) ⟨0, by omega, rfl, rfl, rfl⟩ ?_) ?_ ?_
        rotate_left
        · repeat (first | exact EnvLe.nil _ | refine EnvLe.cons rfl ?_)
        · rw [upTo_zero]
          repeat (first | exact Ent.refl _ | (apply Ent.cons; (· repeat (first | exact Pick.here | (refine Pick.sl ?_; (· repeat (first | exact List.Mem.head _ | assumption | apply List.Mem.tail))) | apply Pick.there))) | (refine Ent.trans (Ent.drop _ _) ?_))
        rintro _ _ _ ⟨j, hj, rfl, rfl, rfl⟩ ih1
        refine SG.seq ?_
        refine SG.seq ?_
        refine SG.openT (t := t) (by repeat (first | exact Pick.here | assumption | apply Pick.there)) fun ad c => ?_
        rw [upTo_len]
        refine SG.region ?_
        refine RL.val (Wanted.free rfl) (V.move rfl rfl) rfl ?_
        refine RL.val (Wanted.free rfl) (V.move rfl rfl) rfl ?_
        refine RL.val (Wanted.free rfl) (V.nilCheck rfl rfl) rfl ?_
        refine RL.val (Wanted.free rfl) (V.fieldAddr rfl rfl fo55_0) rfl ?_
        refine RL.val (Wanted.free rfl) (V.load rfl on53 rfl (by repeat (first | exact Pick.here | assumption | apply Pick.there)) rfl) rfl ?_
        refine RL.val (Wanted.free rfl) (V.len rfl rfl el53.under rfl) rfl ?_
        refine RL.cmp (Wanted.free rfl) (V.bin rfl rfl rfl B.lss) rfl (fun h31 => ?_) (fun h31 => ?_)
        · skip
          have hkT : T[j]? = some T[j] := List.getElem?_eq_getElem (by omega)
          have hst := upTo_step (g := g) hkT
          have hsame := upTo_same (g := g) hkT
          have hcur : (upTo g j T)[j]? = some T[j] := by rw [upTo_get hkT, if_neg (by omega)]
          have hread := hA.get hkT
          have hS2 : D2.S[j]? = some (g j T[j]) := by rw [hA.img, List.getElem?_mapIdx, hkT]; rfl
          obtain ⟨hl1, hl2, hl3⟩ := hA.good _ (mem_of hkT)
          obtain ⟨hg1, hg2, hg3⟩ := hA.ok.all _ (mem_of hS2)
          generalize T[j] = l at *
          have hbb4 : (lst (g j l)).length = 64 := hg3 _ (lst_mem hg1)
          have hbbl : ∀ x, g j l = [x] → lst (g j l) = x := fun x e => by rw [e]; rfl
          obtain ⟨bb, hbb⟩ : ∃ bb, lst (g j l) = bb := ⟨_, rfl⟩
          rw [hbb] at hread hbb4 hbbl
          refine RL.nest (by repeat (first | exact Pick.here | assumption | apply Pick.there)) hcur fun ts a1 m1 c1 xs hF => ?_
          refine RL.buf (a := a1) (by repeat (first | exact Pick.here | assumption | apply Pick.there)) fun hm1 hmc1 _ => ?_
          have htl := hF.len
          rw [upTo_len] at htl
          have hpos := List.length_pos_iff.2 hl1
          refine RL.nil ?_
          refine SG.cond_true rfl ?_
          refine SG.skip ?_
          refine SG.seq ?_
          refine SG.block ?_
          refine SG.seq ?_
          refine SG.region ?_
          refine RL.val (Wanted.free rfl) (V.move rfl rfl) rfl ?_
          refine RL.val (Wanted.free rfl) (V.move rfl rfl) rfl ?_
          refine RL.eff (Wanted.free rfl) (E.call rfl go21 rfl (dRead_ok hA.ok (b := b) (by repeat (first | exact Pick.here | assumption | apply Pick.there)) _ (by omega))) rfl ?_
          rintro _ _ ⟨a72, m72, c72, rfl, rfl⟩
          rw [hread]
          refine RL.publish (T := R8) (a := a72) Pick.here ?_
          refine RL.val (Wanted.free rfl) (V.move rfl rfl) rfl ?_
          refine RL.val (Wanted.free rfl) (V.extract rfl rfl rfl) rfl ?_
          refine RL.val (Wanted.free rfl) (V.extract rfl rfl rfl) rfl ?_
          refine RL.val (Wanted.free rfl) (V.assign rfl rfl) rfl ?_
          refine RL.val (Wanted.free rfl) (V.assign rfl rfl) rfl ?_
          refine RL.nil ?_
          refine SG.seq ?_
          refine SG.seq ?_
          refine SG.sl (T := R8) (a := a72) (l := bb) (by repeat (first | exact List.Mem.head _ | assumption | apply List.Mem.tail)) fun hm72 _ _ => ?_
          refine SG.region ?_
          refine RL.val (Wanted.free rfl) (V.move rfl rfl) rfl ?_
          refine RL.cmpF (Wanted.free rfl) (V.bin rfl rfl rfl B.neq) rfl (by simp) ?_
          refine RL.val (Wanted.free rfl) (V.move rfl rfl) rfl ?_
          refine RL.val (Wanted.yes rfl rfl rfl rfl) (V.move rfl rfl) rfl ?_
          refine RL.val (Wanted.yes rfl rfl rfl rfl) (V.len rfl rfl el32.under rfl) rfl ?_
          refine RL.cmpF (Wanted.yes rfl rfl rfl rfl) (V.bin rfl rfl rfl B.neq) rfl (by omega) ?_
          refine RL.val (Wanted.free rfl) (V.pick_false rfl rfl rfl) rfl ?_
          refine RL.nil ?_
          refine SG.cond_false rfl ?_
          refine SG.skip ?_
          refine SG.seq ?_
          refine SG.seq ?_
          refine SG.region ?_
          refine RL.val (Wanted.free rfl) (V.move rfl rfl) rfl ?_
          refine RL.val (Wanted.free rfl) (V.move rfl rfl) rfl ?_
          refine RL.val (Wanted.free rfl) (V.indexSl (j := i) rfl el22.slice rfl rfl (by repeat (first | exact List.Mem.head _ | assumption | apply List.Mem.tail)) (by first | rfl | omega) (by omega)) rfl ?_
          refine RL.val (Wanted.free rfl) (V.fieldAt rfl rfl fo35_0 (by repeat (first | exact List.Mem.head _ | assumption | apply List.Mem.tail))) rfl ?_
          refine RL.val (Wanted.free rfl) (V.loadAtF rfl on3 rfl (by repeat (first | exact List.Mem.head _ | assumption | apply List.Mem.tail)) rfl) rfl ?_
          refine RL.eff (Wanted.free rfl) (E.call rfl go14 rfl (around_ok _ _ (by omega) (by omega) (by omega))) rfl ?_
          rintro _ _ ⟨rfl, rfl⟩
          rw [hkk]
          refine RL.cmp (Wanted.free rfl) (V.bin rfl rfl rfl B.neq) rfl (fun h50 => ?_) (fun h50 => ?_)
          · skip
            have hid : ∀ k l, g k l = l := by rcases hA.how with h | h; exact h.2; omega
            refine RL.nil ?_
            refine SG.cond_true rfl ?_
            refine SG.seq ?_
            refine SG.seq ?_
            refine SG.drawL 21 21 wide rfl rfl ?_
            refine RH.val 0 rfl (by kernel_rfl) (by kernel_rfl) (by kernel_rfl) (by kernel_rfl) (Wanted.free rfl) (V.move rfl rfl) rfl ?_
            refine RH.val 1 rfl (by kernel_rfl) (by kernel_rfl) (by kernel_rfl) (by kernel_rfl) (Wanted.free rfl) (V.move rfl rfl) rfl ?_
            refine RH.val 2 rfl (by kernel_rfl) (by kernel_rfl) (by kernel_rfl) (by kernel_rfl) (Wanted.free rfl) (V.nilCheck rfl rfl) rfl ?_
            refine RH.val 3 rfl (by kernel_rfl) (by kernel_rfl) (by kernel_rfl) (by kernel_rfl) (Wanted.free rfl) (V.fieldAddr rfl rfl fo55_0) rfl ?_
            refine RH.val 4 rfl (by kernel_rfl) (by kernel_rfl) (by kernel_rfl) (by kernel_rfl) (Wanted.free rfl) (V.load rfl on53 rfl (by repeat (first | exact Pick.here | assumption | apply Pick.there)) rfl) rfl ?_
            refine RH.val 5 rfl (by kernel_rfl) (by kernel_rfl) (by kernel_rfl) (by kernel_rfl) (Wanted.free rfl) (V.move rfl rfl) rfl ?_
            refine RH.val 6 rfl (by kernel_rfl) (by kernel_rfl) (by kernel_rfl) (by kernel_rfl) (Wanted.free rfl) (V.indexAd (j := j) rfl el53.slice rfl rfl (by first | rfl | omega) (by omega)) rfl ?_
            refine RH.val 7 rfl (by kernel_rfl) (by kernel_rfl) (by kernel_rfl) (by kernel_rfl) (Wanted.free rfl) (V.loadTri rfl on56 rfl (by repeat (first | exact Pick.here | assumption | apply Pick.there)) hF.at_) rfl ?_
            refine RH.val 8 rfl (by kernel_rfl) (by kernel_rfl) (by kernel_rfl) (by kernel_rfl) (Wanted.free rfl) (V.move rfl rfl) rfl ?_
            refine RH.val 9 rfl (by kernel_rfl) (by kernel_rfl) (by kernel_rfl) (by kernel_rfl) (Wanted.free rfl) (V.nilCheck rfl rfl) rfl ?_
            refine RH.val 10 rfl (by kernel_rfl) (by kernel_rfl) (by kernel_rfl) (by kernel_rfl) (Wanted.free rfl) (V.fieldAddr rfl rfl fo55_0) rfl ?_
            refine RH.val 11 rfl (by kernel_rfl) (by kernel_rfl) (by kernel_rfl) (by kernel_rfl) (Wanted.free rfl) (V.load rfl on53 rfl (by repeat (first | exact Pick.here | assumption | apply Pick.there)) rfl) rfl ?_
            refine RH.val 12 rfl (by kernel_rfl) (by kernel_rfl) (by kernel_rfl) (by kernel_rfl) (Wanted.free rfl) (V.move rfl rfl) rfl ?_
            refine RH.val 13 rfl (by kernel_rfl) (by kernel_rfl) (by kernel_rfl) (by kernel_rfl) (Wanted.free rfl) (V.indexAd (j := j) rfl el53.slice rfl rfl (by first | rfl | omega) (by omega)) rfl ?_
            refine RH.val 14 rfl (by kernel_rfl) (by kernel_rfl) (by kernel_rfl) (by kernel_rfl) (Wanted.free rfl) (V.loadTri rfl on56 rfl (by repeat (first | exact Pick.here | assumption | apply Pick.there)) hF.at_) rfl ?_
            refine RH.val 15 rfl (by kernel_rfl) (by kernel_rfl) (by kernel_rfl) (by kernel_rfl) (Wanted.free rfl) (V.len rfl rfl el56.under rfl) rfl ?_
            refine RH.val 16 rfl (by kernel_rfl) (by kernel_rfl) (by kernel_rfl) (by kernel_rfl) (Wanted.free rfl) (V.bin rfl rfl rfl (B.subI (by omega) (by omega))) rfl ?_
            refine RH.val 17 rfl (by kernel_rfl) (by kernel_rfl) (by kernel_rfl) (by kernel_rfl) (Wanted.free rfl) (V.indexBuf (j := m1 - 1) rfl el56.slice rfl rfl (by repeat (first | exact Pick.here | assumption | apply Pick.there)) (by first | rfl | omega) (by omega)) rfl ?_
            refine RH.one (i := 18) (by kernel_rfl) ?_
            refine RHone.eff rfl (Wanted.free rfl) (E.loadBufSl (j := m1 - 1) rfl on32 rfl (by repeat (first | exact Pick.here | assumption | apply Pick.there)) (by rw [← hm1]; exact lst_get hl1)) rfl ?_
            rintro _ _ ⟨a69, m69, c69, rfl, rfl⟩
            refine ⟨.inr (by repeat (first | exact Ent.refl _ | (apply Ent.cons; (· repeat (first | exact Pick.here | (refine Pick.sl ?_; (· repeat (first | exact List.Mem.head _ | assumption | apply List.Mem.tail))) | apply Pick.there))) | (refine Ent.trans (Ent.drop _ _) ?_))), ?_⟩
            refine RH.one (i := 19) (by kernel_rfl) ?_
            refine RHone.eff rfl (Wanted.free rfl) (E.call rfl go22 rfl (sameBytes_true (l := bb) (l' := lst l) (a := a72) (by first | (apply Seen.sl; (· repeat (first | exact List.Mem.head _ | assumption | apply List.Mem.tail))) | (apply Seen.buf; (· repeat (first | exact Pick.here | apply Pick.there)))) (by first | (apply Seen.sl; (· repeat (first | exact List.Mem.head _ | assumption | apply List.Mem.tail))) | (apply Seen.buf; (· repeat (first | exact Pick.here | apply Pick.there)))) (by rw [← hbb, hid]))) rfl ?_
            rintro _ _ ⟨rfl, rfl⟩
            refine ⟨.inr (by repeat (first | exact Ent.refl _ | (apply Ent.cons; (· repeat (first | exact Pick.here | (refine Pick.sl ?_; (· repeat (first | exact List.Mem.head _ | assumption | apply List.Mem.tail))) | apply Pick.there))) | (refine Ent.trans (Ent.drop _ _) ?_))), ?_⟩
            refine RH.pure 20 rfl (by kernel_rfl) (by kernel_rfl) (by kernel_rfl) (by kernel_rfl) (Wanted.free rfl) (V.not rfl rfl) rfl ?_
            refine RH.done (by kernel_rfl) ?_
            refine SG.cond_false rfl ?_
            refine SG.skip ?_
            refine SG.exit rfl ?_
            refine SG.region ?_
            refine RL.val (Wanted.free rfl) (V.move rfl rfl) rfl ?_
            refine RL.val (Wanted.free rfl) (V.bin rfl rfl rfl (B.addI (by omega) (by omega))) rfl ?_
            refine RL.val (Wanted.free rfl) (V.assign rfl rfl) rfl ?_
            refine RL.nil ?_
            refine SG.weaken (ih1 _ _ _ ?_ ⟨j + 1, by omega, rfl, rfl, rfl⟩) ?_ ?_
            · omega
            · repeat (first | exact EnvLe.nil _ | refine EnvLe.cons rfl ?_)
            · rw [hsame (hid _ _)]
              refine Ent.cons (by repeat (first | exact Pick.here | assumption | apply Pick.there)) ?_
              refine Trk.ent (ad := ad) (c := c) ?_
              rw [upTo_len]
              refine Ent.cons (by repeat (first | exact Pick.here | assumption | apply Pick.there)) ?_
              refine Ent.trans ?_ (hF.back _)
              repeat (first | exact Ent.refl _ | (apply Ent.cons; (· repeat (first | exact Pick.here | (refine Pick.sl ?_; (· repeat (first | exact List.Mem.head _ | assumption | apply List.Mem.tail))) | apply Pick.there))) | (refine Ent.trans (Ent.drop _ _) ?_))
          · skip
            obtain ⟨rts, hgts⟩ : ∃ ts : List Torn, ∀ k l, g k l = [left l (firstOf ts k)] := by rcases hA.how with h | h; omega; exact h.2
            have hgl := hgts j l
            have hbl := hbbl _ hgl
            rw [← hbl] at hgl
            clear hbbl
            have hbbl : bb = bb := rfl
            refine RL.nil ?_
            refine SG.cond_false rfl ?_
            refine SG.skip ?_
            refine SG.seq ?_
            refine SG.region ?_
            refine RL.val (Wanted.free rfl) (V.move rfl rfl) rfl ?_
            refine RL.val (Wanted.free rfl) (V.move rfl rfl) rfl ?_
            refine RL.val (Wanted.free rfl) (V.nilCheck rfl rfl) rfl ?_
            refine RL.val (Wanted.free rfl) (V.fieldAddr rfl rfl fo55_0) rfl ?_
            refine RL.val (Wanted.free rfl) (V.load rfl on53 rfl (by repeat (first | exact Pick.here | assumption | apply Pick.there)) rfl) rfl ?_
            refine RL.val (Wanted.free rfl) (V.move rfl rfl) rfl ?_
            refine RL.val (Wanted.free rfl) (V.indexAd (j := j) rfl el53.slice rfl rfl (by first | rfl | omega) (by omega)) rfl ?_
            refine RL.val (Wanted.free rfl) (V.loadTri rfl on56 rfl (by repeat (first | exact Pick.here | assumption | apply Pick.there)) hF.at_) rfl ?_
            refine RL.val (Wanted.free rfl) (V.indexBuf (j := 0) rfl el56.slice rfl rfl (by repeat (first | exact Pick.here | assumption | apply Pick.there)) (by first | rfl | omega) (by omega)) rfl ?_
            refine RL.eff (Wanted.free rfl) (E.loadBufSl (j := 0) rfl on32 rfl (by repeat (first | exact Pick.here | assumption | apply Pick.there)) (show l[0]? = some (hd l) from by rw [hd_nth]; exact nth_get hpos)) rfl ?_
            rintro _ _ ⟨a83, m83, c83, rfl, rfl⟩
            refine RL.eff (Wanted.free rfl) (E.call rfl go22 rfl (sameBytes_rd (l := bb) (l' := hd l) (a := a72) (by first | (apply Seen.sl; (· repeat (first | exact List.Mem.head _ | assumption | apply List.Mem.tail))) | (apply Seen.buf; (· repeat (first | exact Pick.here | apply Pick.there)))) (by first | (apply Seen.sl; (· repeat (first | exact List.Mem.head _ | assumption | apply List.Mem.tail))) | (apply Seen.buf; (· repeat (first | exact Pick.here | apply Pick.there)))))) rfl ?_
            rintro _ _ ⟨rfl, rfl⟩
            refine RL.val (Wanted.free rfl) (V.assign rfl rfl) rfl ?_
            refine RL.nil ?_
            refine SG.seq ?_
            refine SG.seq ?_
            refine SG.region ?_
            refine RL.val (Wanted.free rfl) (V.assign rfl rfl) rfl ?_
            refine RL.nil ?_
            refine SG.block ?_
            refine SG.weaken (SG.loop2 (fun m al M => ∃ (w : Nat) (fd : Bool), 1 ≤ w ∧ w ≤ l.length ∧ m = l.length - w ∧ Fnd bb l w fd ∧ al = [(1, .slice a os.length c0), (5, ptr b 0), (6, ptr t 0), (7, vI i), (8, vI j), (9, .slice a72 m72 c72), (11, vB fd), (12, vI w)] ∧ M = Buf RTri 56 (some ad) T.length c ts :: Buf (Rep.slice R8) 32 a1 m1 c1 l :: Each (nown (Rep.slice R8) 32) xs :: Blk t 55 [.slice (some ad) T.length c] :: Dsk b D2 :: Sl R8 a72 m72 c72 bb :: Sl R8 ab mb cb os[i].b :: Sl RTorn al0 ml cl os[i].l :: At a (i * 5) [vI os[i].kind, vI os[i].k, vI os[i].n, .slice ab mb cb, .slice al0 ml cl] :: L) (m0 := _) ⟨1, _, by omega, by omega, rfl, Fnd.start bb l, rfl, rfl⟩ ?_) ?_ ?_
            rotate_left
            · repeat (first | exact EnvLe.nil _ | refine EnvLe.cons rfl ?_)
            · repeat (first | exact Ent.refl _ | (apply Ent.cons; (· repeat (first | exact Pick.here | (refine Pick.sl ?_; (· repeat (first | exact List.Mem.head _ | assumption | apply List.Mem.tail))) | apply Pick.there))) | (refine Ent.trans (Ent.drop _ _) ?_))
            rintro _ _ _ ⟨w, fd, hw1, hwl, rfl, hFd, rfl, rfl⟩ ih2
            refine SG.seq ?_
            refine SG.seq ?_
            refine SG.region ?_
            refine RL.val (Wanted.free rfl) (V.move rfl rfl) rfl ?_
            refine RL.val (Wanted.free rfl) (V.move rfl rfl) rfl ?_
            refine RL.val (Wanted.free rfl) (V.nilCheck rfl rfl) rfl ?_
            refine RL.val (Wanted.free rfl) (V.fieldAddr rfl rfl fo55_0) rfl ?_
            refine RL.val (Wanted.free rfl) (V.load rfl on53 rfl (by repeat (first | exact Pick.here | assumption | apply Pick.there)) rfl) rfl ?_
            refine RL.val (Wanted.free rfl) (V.move rfl rfl) rfl ?_
            refine RL.val (Wanted.free rfl) (V.indexAd (j := j) rfl el53.slice rfl rfl (by first | rfl | omega) (by omega)) rfl ?_
            refine RL.val (Wanted.free rfl) (V.loadTri rfl on56 rfl (by repeat (first | exact Pick.here | assumption | apply Pick.there)) hF.at_) rfl ?_
            refine RL.val (Wanted.free rfl) (V.len rfl rfl el56.under rfl) rfl ?_
            refine RL.cmp (Wanted.free rfl) (V.bin rfl rfl rfl B.lss) rfl (fun h96 => ?_) (fun h96 => ?_)
            · skip
              refine RL.nil ?_
              refine SG.cond_true rfl ?_
              refine SG.skip ?_
              refine SG.seq ?_
              refine SG.block ?_
              refine SG.drawL 27 27 wide rfl rfl ?_
              refine RH.val 0 rfl (by kernel_rfl) (by kernel_rfl) (by kernel_rfl) (by kernel_rfl) (Wanted.free rfl) (V.move rfl rfl) rfl ?_
              refine RH.val 1 rfl (by kernel_rfl) (by kernel_rfl) (by kernel_rfl) (by kernel_rfl) (Wanted.free rfl) (V.move rfl rfl) rfl ?_
              refine RH.split 134 rfl (fun g99 => ?_) (fun g99 => ?_)
              · skip
                refine RH.skip 2 rfl (by kernel_rfl) (by kernel_rfl) (by kernel_rfl) (by kernel_rfl) (Wanted.no rfl rfl rfl rfl rfl) rfl ?_
                refine RH.skip 3 rfl (by kernel_rfl) (by kernel_rfl) (by kernel_rfl) (by kernel_rfl) (Wanted.no rfl rfl rfl rfl rfl) rfl ?_
                refine RH.skip 4 rfl (by kernel_rfl) (by kernel_rfl) (by kernel_rfl) (by kernel_rfl) (Wanted.no rfl rfl rfl rfl rfl) rfl ?_
                refine RH.skip 5 rfl (by kernel_rfl) (by kernel_rfl) (by kernel_rfl) (by kernel_rfl) (Wanted.no rfl rfl rfl rfl rfl) rfl ?_
                refine RH.skip 6 rfl (by kernel_rfl) (by kernel_rfl) (by kernel_rfl) (by kernel_rfl) (Wanted.no rfl rfl rfl rfl rfl) rfl ?_
                refine RH.skip 7 rfl (by kernel_rfl) (by kernel_rfl) (by kernel_rfl) (by kernel_rfl) (Wanted.no rfl rfl rfl rfl rfl) rfl ?_
                refine RH.skip 8 rfl (by kernel_rfl) (by kernel_rfl) (by kernel_rfl) (by kernel_rfl) (Wanted.no rfl rfl rfl rfl rfl) rfl ?_
                refine RH.skip 9 rfl (by kernel_rfl) (by kernel_rfl) (by kernel_rfl) (by kernel_rfl) (Wanted.no rfl rfl rfl rfl rfl) rfl ?_
                refine RH.skip 10 rfl (by kernel_rfl) (by kernel_rfl) (by kernel_rfl) (by kernel_rfl) (Wanted.no rfl rfl rfl rfl rfl) rfl ?_
                refine RH.skip 11 rfl (by kernel_rfl) (by kernel_rfl) (by kernel_rfl) (by kernel_rfl) (Wanted.no rfl rfl rfl rfl rfl) rfl ?_
                refine RH.skip 12 rfl (by kernel_rfl) (by kernel_rfl) (by kernel_rfl) (by kernel_rfl) (Wanted.no rfl rfl rfl rfl rfl) rfl ?_
                refine RH.skip 13 rfl (by kernel_rfl) (by kernel_rfl) (by kernel_rfl) (by kernel_rfl) (Wanted.no rfl rfl rfl rfl rfl) rfl ?_
                refine RH.skip 14 rfl (by kernel_rfl) (by kernel_rfl) (by kernel_rfl) (by kernel_rfl) (Wanted.no rfl rfl rfl rfl rfl) rfl ?_
                refine RH.skip 15 rfl (by kernel_rfl) (by kernel_rfl) (by kernel_rfl) (by kernel_rfl) (Wanted.no rfl rfl rfl rfl rfl) rfl ?_
                refine RH.skip 16 rfl (by kernel_rfl) (by kernel_rfl) (by kernel_rfl) (by kernel_rfl) (Wanted.no rfl rfl rfl rfl rfl) rfl ?_
                refine RH.skip 17 rfl (by kernel_rfl) (by kernel_rfl) (by kernel_rfl) (by kernel_rfl) (Wanted.no rfl rfl rfl rfl rfl) rfl ?_
                refine RH.skip 18 rfl (by kernel_rfl) (by kernel_rfl) (by kernel_rfl) (by kernel_rfl) (Wanted.no rfl rfl rfl rfl rfl) rfl ?_
                refine RH.skip 19 rfl (by kernel_rfl) (by kernel_rfl) (by kernel_rfl) (by kernel_rfl) (Wanted.no rfl rfl rfl rfl rfl) rfl ?_
                refine RH.skip 20 rfl (by kernel_rfl) (by kernel_rfl) (by kernel_rfl) (by kernel_rfl) (Wanted.no rfl rfl rfl rfl rfl) rfl ?_
                refine RH.skip 21 rfl (by kernel_rfl) (by kernel_rfl) (by kernel_rfl) (by kernel_rfl) (Wanted.no rfl rfl rfl rfl rfl) rfl ?_
                refine RH.skip 22 rfl (by kernel_rfl) (by kernel_rfl) (by kernel_rfl) (by kernel_rfl) (Wanted.no rfl rfl rfl rfl rfl) rfl ?_
                refine RH.skip 23 rfl (by kernel_rfl) (by kernel_rfl) (by kernel_rfl) (by kernel_rfl) (Wanted.no rfl rfl rfl rfl rfl) rfl ?_
                refine RH.skip 24 rfl (by kernel_rfl) (by kernel_rfl) (by kernel_rfl) (by kernel_rfl) (Wanted.no rfl rfl rfl rfl rfl) rfl ?_
                refine RH.pure 25 rfl (by kernel_rfl) (by kernel_rfl) (by kernel_rfl) (by kernel_rfl) (Wanted.free rfl) (V.pick_true rfl rfl rfl) rfl ?_
                refine RH.val 26 rfl (by kernel_rfl) (by kernel_rfl) (by kernel_rfl) (by kernel_rfl) (Wanted.free rfl) (V.assign rfl rfl) rfl ?_
                refine RH.done (by kernel_rfl) ?_
                refine SG.inBlock ?_
                refine SG.region ?_
                refine RL.val (Wanted.free rfl) (V.move rfl rfl) rfl ?_
                refine RL.val (Wanted.free rfl) (V.bin rfl rfl rfl (B.addI (by omega) (by omega))) rfl ?_
                refine RL.val (Wanted.free rfl) (V.assign rfl rfl) rfl ?_
                refine RL.nil ?_
                have hFt : Fnd bb l w true := by
                  have e : fd = true := by assumption
                  rw [← e]; exact hFd
                refine SG.weaken (ih2 _ _ _ ?_ ⟨w + 1, true, by omega, by omega, rfl, hFt.keep, rfl, rfl⟩) ?_ ?_
                · omega
                · repeat (first | exact EnvLe.nil _ | refine EnvLe.cons rfl ?_)
                · repeat (first | exact Ent.refl _ | (apply Ent.cons; (· repeat (first | exact Pick.here | (refine Pick.sl ?_; (· repeat (first | exact List.Mem.head _ | assumption | apply List.Mem.tail))) | apply Pick.there))) | (refine Ent.trans (Ent.drop _ _) ?_))
              · skip
                refine RH.val 2 rfl (by kernel_rfl) (by kernel_rfl) (by kernel_rfl) (by kernel_rfl) (Wanted.yes rfl rfl rfl rfl) (V.move rfl rfl) rfl ?_
                refine RH.val 3 rfl (by kernel_rfl) (by kernel_rfl) (by kernel_rfl) (by kernel_rfl) (Wanted.yes rfl rfl rfl rfl) (V.move rfl rfl) rfl ?_
                refine RH.val 4 rfl (by kernel_rfl) (by kernel_rfl) (by kernel_rfl) (by kernel_rfl) (Wanted.yes rfl rfl rfl rfl) (V.nilCheck rfl rfl) rfl ?_
                refine RH.val 5 rfl (by kernel_rfl) (by kernel_rfl) (by kernel_rfl) (by kernel_rfl) (Wanted.yes rfl rfl rfl rfl) (V.fieldAddr rfl rfl fo55_0) rfl ?_
                refine RH.val 6 rfl (by kernel_rfl) (by kernel_rfl) (by kernel_rfl) (by kernel_rfl) (Wanted.yes rfl rfl rfl rfl) (V.load rfl on53 rfl (by repeat (first | exact Pick.here | assumption | apply Pick.there)) rfl) rfl ?_
                refine RH.val 7 rfl (by kernel_rfl) (by kernel_rfl) (by kernel_rfl) (by kernel_rfl) (Wanted.yes rfl rfl rfl rfl) (V.move rfl rfl) rfl ?_
                refine RH.val 8 rfl (by kernel_rfl) (by kernel_rfl) (by kernel_rfl) (by kernel_rfl) (Wanted.yes rfl rfl rfl rfl) (V.indexAd (j := j) rfl el53.slice rfl rfl (by first | rfl | omega) (by omega)) rfl ?_
                refine RH.val 9 rfl (by kernel_rfl) (by kernel_rfl) (by kernel_rfl) (by kernel_rfl) (Wanted.yes rfl rfl rfl rfl) (V.loadTri rfl on56 rfl (by repeat (first | exact Pick.here | assumption | apply Pick.there)) hF.at_) rfl ?_
                refine RH.val 10 rfl (by kernel_rfl) (by kernel_rfl) (by kernel_rfl) (by kernel_rfl) (Wanted.yes rfl rfl rfl rfl) (V.move rfl rfl) rfl ?_
                refine RH.val 11 rfl (by kernel_rfl) (by kernel_rfl) (by kernel_rfl) (by kernel_rfl) (Wanted.yes rfl rfl rfl rfl) (V.indexBuf (j := w) rfl el56.slice rfl rfl (by repeat (first | exact Pick.here | assumption | apply Pick.there)) (by first | rfl | omega) (by omega)) rfl ?_
                refine RH.val 13 rfl (by kernel_rfl) (by kernel_rfl) (by kernel_rfl) (by kernel_rfl) (Wanted.yes rfl rfl rfl rfl) (V.move rfl rfl) rfl ?_
                refine RH.val 14 rfl (by kernel_rfl) (by kernel_rfl) (by kernel_rfl) (by kernel_rfl) (Wanted.yes rfl rfl rfl rfl) (V.nilCheck rfl rfl) rfl ?_
                refine RH.val 15 rfl (by kernel_rfl) (by kernel_rfl) (by kernel_rfl) (by kernel_rfl) (Wanted.yes rfl rfl rfl rfl) (V.fieldAddr rfl rfl fo55_0) rfl ?_
                refine RH.val 16 rfl (by kernel_rfl) (by kernel_rfl) (by kernel_rfl) (by kernel_rfl) (Wanted.yes rfl rfl rfl rfl) (V.load rfl on53 rfl (by repeat (first | exact Pick.here | assumption | apply Pick.there)) rfl) rfl ?_
                refine RH.val 17 rfl (by kernel_rfl) (by kernel_rfl) (by kernel_rfl) (by kernel_rfl) (Wanted.yes rfl rfl rfl rfl) (V.move rfl rfl) rfl ?_
                refine RH.val 18 rfl (by kernel_rfl) (by kernel_rfl) (by kernel_rfl) (by kernel_rfl) (Wanted.yes rfl rfl rfl rfl) (V.indexAd (j := j) rfl el53.slice rfl rfl (by first | rfl | omega) (by omega)) rfl ?_
                refine RH.val 19 rfl (by kernel_rfl) (by kernel_rfl) (by kernel_rfl) (by kernel_rfl) (Wanted.yes rfl rfl rfl rfl) (V.loadTri rfl on56 rfl (by repeat (first | exact Pick.here | assumption | apply Pick.there)) hF.at_) rfl ?_
                refine RH.val 20 rfl (by kernel_rfl) (by kernel_rfl) (by kernel_rfl) (by kernel_rfl) (Wanted.yes rfl rfl rfl rfl) (V.move rfl rfl) rfl ?_
                refine RH.val 21 rfl (by kernel_rfl) (by kernel_rfl) (by kernel_rfl) (by kernel_rfl) (Wanted.yes rfl rfl rfl rfl) (V.bin rfl rfl rfl (B.subI (by omega) (by omega))) rfl ?_
                refine RH.val 22 rfl (by kernel_rfl) (by kernel_rfl) (by kernel_rfl) (by kernel_rfl) (Wanted.yes rfl rfl rfl rfl) (V.indexBuf (j := w - 1) rfl el56.slice rfl rfl (by repeat (first | exact Pick.here | assumption | apply Pick.there)) (by first | rfl | omega) (by omega)) rfl ?_
                refine RH.two (i := 12) (j := 23) (by kernel_rfl) ?_ ?_
                · skip
                  refine RHone.eff rfl (Wanted.yes rfl rfl rfl rfl) (E.loadBufSl (j := w) rfl on32 rfl (by repeat (first | exact Pick.here | assumption | apply Pick.there)) (nth_get (by omega))) rfl ?_
                  rintro _ _ ⟨a124, m124, c124, rfl, rfl⟩
                  refine ⟨.inr (by repeat (first | exact Ent.refl _ | (apply Ent.cons; (· repeat (first | exact Pick.here | (refine Pick.sl ?_; (· repeat (first | exact List.Mem.head _ | assumption | apply List.Mem.tail))) | apply Pick.there))) | (refine Ent.trans (Ent.drop _ _) ?_))), ?_⟩
                  refine RH.one (i := 23) (by kernel_rfl) ?_
                  refine RHone.eff rfl (Wanted.yes rfl rfl rfl rfl) (E.loadBufSl (j := w - 1) rfl on32 rfl (by repeat (first | exact Pick.here | assumption | apply Pick.there)) (nth_get (by omega))) rfl ?_
                  rintro _ _ ⟨a125, m125, c125, rfl, rfl⟩
                  refine ⟨.inr (by repeat (first | exact Ent.refl _ | (apply Ent.cons; (· repeat (first | exact Pick.here | (refine Pick.sl ?_; (· repeat (first | exact List.Mem.head _ | assumption | apply List.Mem.tail))) | apply Pick.there))) | (refine Ent.trans (Ent.drop _ _) ?_))), ?_⟩
                  refine RH.one (i := 24) (by kernel_rfl) ?_
                  refine RHone.eff rfl (Wanted.yes rfl rfl rfl rfl) (E.call rfl go28 rfl (prefix_ok (bb := bb) (ff := nth l w) (tt := nth l (w - 1)) (a := a72) (by repeat (first | exact List.Mem.head _ | assumption | apply List.Mem.tail)) (by repeat (first | exact List.Mem.head _ | assumption | apply List.Mem.tail)) (by repeat (first | exact List.Mem.head _ | assumption | apply List.Mem.tail)) hbb4 (hl3 _ (nth_mem (by omega))) (hl3 _ (nth_mem (by omega))))) rfl ?_
                  rintro _ _ ⟨p157, rfl, hp157, rfl⟩
                  refine ⟨.inr (by repeat (first | exact Ent.refl _ | (apply Ent.cons; (· repeat (first | exact Pick.here | (refine Pick.sl ?_; (· repeat (first | exact List.Mem.head _ | assumption | apply List.Mem.tail))) | apply Pick.there))) | (refine Ent.trans (Ent.drop _ _) ?_))), ?_⟩
                  refine RH.pure 25 rfl (by kernel_rfl) (by kernel_rfl) (by kernel_rfl) (by kernel_rfl) (Wanted.free rfl) (V.pick_false rfl rfl rfl) rfl ?_
                  refine RH.val 26 rfl (by kernel_rfl) (by kernel_rfl) (by kernel_rfl) (by kernel_rfl) (Wanted.free rfl) (V.assign rfl rfl) rfl ?_
                  refine RH.done (by kernel_rfl) ?_
                  refine SG.inBlock ?_
                  refine SG.region ?_
                  refine RL.val (Wanted.free rfl) (V.move rfl rfl) rfl ?_
                  refine RL.val (Wanted.free rfl) (V.bin rfl rfl rfl (B.addI (by omega) (by omega))) rfl ?_
                  refine RL.val (Wanted.free rfl) (V.assign rfl rfl) rfl ?_
                  refine RL.nil ?_
                  have hFt : Fnd bb l w false := by
                    have e : fd = false := by assumption
                    rw [← e]; exact hFd
                  refine SG.weaken (ih2 _ _ _ ?_ ⟨w + 1, p157, by omega, by omega, rfl, hFt.look hp157, rfl, rfl⟩) ?_ ?_
                  · omega
                  · repeat (first | exact EnvLe.nil _ | refine EnvLe.cons rfl ?_)
                  · repeat (first | exact Ent.refl _ | (apply Ent.cons; (· repeat (first | exact Pick.here | (refine Pick.sl ?_; (· repeat (first | exact List.Mem.head _ | assumption | apply List.Mem.tail))) | apply Pick.there))) | (refine Ent.trans (Ent.drop _ _) ?_))
                · skip
                  refine RHone.eff rfl (Wanted.yes rfl rfl rfl rfl) (E.loadBufSl (j := w - 1) rfl on32 rfl (by repeat (first | exact Pick.here | assumption | apply Pick.there)) (nth_get (by omega))) rfl ?_
                  rintro _ _ ⟨a131, m131, c131, rfl, rfl⟩
                  refine ⟨.inr (by repeat (first | exact Ent.refl _ | (apply Ent.cons; (· repeat (first | exact Pick.here | (refine Pick.sl ?_; (· repeat (first | exact List.Mem.head _ | assumption | apply List.Mem.tail))) | apply Pick.there))) | (refine Ent.trans (Ent.drop _ _) ?_))), ?_⟩
                  refine RH.one (i := 12) (by kernel_rfl) ?_
                  refine RHone.eff rfl (Wanted.yes rfl rfl rfl rfl) (E.loadBufSl (j := w) rfl on32 rfl (by repeat (first | exact Pick.here | assumption | apply Pick.there)) (nth_get (by omega))) rfl ?_
                  rintro _ _ ⟨a132, m132, c132, rfl, rfl⟩
                  refine ⟨.inr (by repeat (first | exact Ent.refl _ | (apply Ent.cons; (· repeat (first | exact Pick.here | (refine Pick.sl ?_; (· repeat (first | exact List.Mem.head _ | assumption | apply List.Mem.tail))) | apply Pick.there))) | (refine Ent.trans (Ent.drop _ _) ?_))), ?_⟩
                  refine RH.one (i := 24) (by kernel_rfl) ?_
                  refine RHone.eff rfl (Wanted.yes rfl rfl rfl rfl) (E.call rfl go28 rfl (prefix_ok (bb := bb) (ff := nth l w) (tt := nth l (w - 1)) (a := a72) (by repeat (first | exact List.Mem.head _ | assumption | apply List.Mem.tail)) (by repeat (first | exact List.Mem.head _ | assumption | apply List.Mem.tail)) (by repeat (first | exact List.Mem.head _ | assumption | apply List.Mem.tail)) hbb4 (hl3 _ (nth_mem (by omega))) (hl3 _ (nth_mem (by omega))))) rfl ?_
                  rintro _ _ ⟨p157, rfl, hp157, rfl⟩
                  refine ⟨.inr (by repeat (first | exact Ent.refl _ | (apply Ent.cons; (· repeat (first | exact Pick.here | (refine Pick.sl ?_; (· repeat (first | exact List.Mem.head _ | assumption | apply List.Mem.tail))) | apply Pick.there))) | (refine Ent.trans (Ent.drop _ _) ?_))), ?_⟩
                  refine RH.pure 25 rfl (by kernel_rfl) (by kernel_rfl) (by kernel_rfl) (by kernel_rfl) (Wanted.free rfl) (V.pick_false rfl rfl rfl) rfl ?_
                  refine RH.val 26 rfl (by kernel_rfl) (by kernel_rfl) (by kernel_rfl) (by kernel_rfl) (Wanted.free rfl) (V.assign rfl rfl) rfl ?_
                  refine RH.done (by kernel_rfl) ?_
                  refine SG.inBlock ?_
                  refine SG.region ?_
                  refine RL.val (Wanted.free rfl) (V.move rfl rfl) rfl ?_
                  refine RL.val (Wanted.free rfl) (V.bin rfl rfl rfl (B.addI (by omega) (by omega))) rfl ?_
                  refine RL.val (Wanted.free rfl) (V.assign rfl rfl) rfl ?_
                  refine RL.nil ?_
                  have hFt : Fnd bb l w false := by
                    have e : fd = false := by assumption
                    rw [← e]; exact hFd
                  refine SG.weaken (ih2 _ _ _ ?_ ⟨w + 1, p157, by omega, by omega, rfl, hFt.look hp157, rfl, rfl⟩) ?_ ?_
                  · omega
                  · repeat (first | exact EnvLe.nil _ | refine EnvLe.cons rfl ?_)
                  · repeat (first | exact Ent.refl _ | (apply Ent.cons; (· repeat (first | exact Pick.here | (refine Pick.sl ?_; (· repeat (first | exact List.Mem.head _ | assumption | apply List.Mem.tail))) | apply Pick.there))) | (refine Ent.trans (Ent.drop _ _) ?_))
            · skip
              have hfd : fd = true := by
                refine Fnd.done (l := l) (o := firstOf rts j) (w := w) ?_ hl1 (by omega)
                rw [← hbl]; exact hFd
              subst hfd
              refine RL.nil ?_
              refine SG.cond_false rfl ?_
              refine SG.exit rfl ?_
              refine SG.seq ?_
              refine SG.seq ?_
              refine SG.region ?_
              refine RL.val (Wanted.free rfl) (V.move rfl rfl) rfl ?_
              refine RL.val (Wanted.free rfl) (V.not rfl rfl) rfl ?_
              refine RL.nil ?_
              refine SG.cond_false rfl ?_
              refine SG.skip ?_
              refine SG.region ?_
              refine RL.val (Wanted.free rfl) (V.move rfl rfl) rfl ?_
              refine RL.val (Wanted.free rfl) (V.nilCheck rfl rfl) rfl ?_
              refine RL.val (Wanted.free rfl) (V.fieldAddr rfl rfl fo55_0) rfl ?_
              refine RL.val (Wanted.free rfl) (V.load rfl on53 rfl (by repeat (first | exact Pick.here | assumption | apply Pick.there)) rfl) rfl ?_
              refine RL.val (Wanted.free rfl) (V.move rfl rfl) rfl ?_
              refine RL.val (Wanted.free rfl) (V.move rfl rfl) rfl ?_
              refine RL.eff (Wanted.free rfl) (E.lit1 _ rfl el56.slice ze32 rfl (by decide) (by decide) rfl rfl rfl) rfl ?_
              rintro _ _ ⟨b167, rfl, rfl⟩
              refine RL.val (Wanted.free rfl) (V.indexAd (j := j) rfl el53.slice rfl rfl (by first | rfl | omega) (by omega)) rfl ?_
              refine RL.eff (Wanted.free rfl) (E.storeBuf (T := RTri) (j := j) (y := (some ⟨b167, 0, none⟩, 1, 1)) [.slice (some ⟨b167, 0, none⟩) 1 1] rfl sz56 rfl rfl rfl (by repeat (first | exact Pick.here | assumption | apply Pick.there)) (by omega) (fun _ _ _ => ⟨rfl, trivial⟩)) rfl ?_
              rintro _ _ rfl
              refine RL.nil ?_
              refine SG.inBlock ?_
              refine SG.region ?_
              refine RL.val (Wanted.free rfl) (V.move rfl rfl) rfl ?_
              refine RL.val (Wanted.free rfl) (V.bin rfl rfl rfl (B.addI (by omega) (by omega))) rfl ?_
              refine RL.val (Wanted.free rfl) (V.assign rfl rfl) rfl ?_
              refine RL.nil ?_
              refine SG.ent (Buf.lit1 (T := R8) (b := b167) (y := bb) (a := a72) (m := m72) (c := c72) (by repeat (first | exact Pick.here | assumption | apply Pick.there)) (by repeat (first | exact List.Mem.head _ | assumption | apply List.Mem.tail))) ?_
              refine SG.weaken (ih1 _ _ _ ?_ ⟨j + 1, by omega, rfl, rfl, rfl⟩) ?_ ?_
              · omega
              · repeat (first | exact EnvLe.nil _ | refine EnvLe.cons rfl ?_)
              · rw [hst, hgl, ← hbbl]
                refine Ent.cons (by repeat (first | exact Pick.here | assumption | apply Pick.there)) ?_
                refine Trk.ent (ad := ad) (c := c) ?_
                rw [List.length_set, upTo_len]
                refine Ent.cons (by repeat (first | exact Pick.here | assumption | apply Pick.there)) ?_
                refine Ent.trans ?_ (hF.put (some ⟨b167, 0, none⟩) 1 1 [bb] (Sl R8 ab mb cb os[i].b :: Sl RTorn al0 ml cl os[i].l :: At a (i * 5) [vI os[i].kind, vI os[i].k, vI os[i].n, .slice ab mb cb, .slice al0 ml cl] :: L))
                repeat (first | exact Ent.refl _ | (apply Ent.cons; (· repeat (first | exact Pick.here | (refine Pick.sl ?_; (· repeat (first | exact List.Mem.head _ | assumption | apply List.Mem.tail))) | apply Pick.there))) | (refine Ent.trans (Ent.drop _ _) ?_))
        · skip
          refine RL.nil ?_
          refine SG.cond_false rfl ?_
          refine SG.exit rfl ?_
          refine SG.inBlock ?_
          refine SG.region ?_
          refine RL.val (Wanted.free rfl) (V.move rfl rfl) rfl ?_
          refine RL.val (Wanted.free rfl) (V.bin rfl rfl rfl (B.addI (by omega) (by omega))) rfl ?_
          refine RL.val (Wanted.free rfl) (V.assign rfl rfl) rfl ?_
          refine RL.nil ?_
          have hlast : upTo g j T = D2.S := by rw [upTo_all (by omega), hA.img]
          rw [hlast]
          refine SG.weaken (ih0 _ _ _ ?_ ⟨i + 1, D2, by omega, by omega, rfl, hA.ok, hA.calm, rfl, rfl⟩) ?_ ?_
          · omega
          · repeat (first | exact EnvLe.nil _ | refine EnvLe.cons rfl ?_)
          · refine Ent.cons (by repeat (first | exact Pick.here | assumption | apply Pick.there)) ?_
            refine Trk.ent (ad := ad) (c := c) ?_
            rw [hA.len]
            repeat (first | exact Ent.refl _ | (apply Ent.cons; (· repeat (first | exact Pick.here | (refine Pick.sl ?_; (· repeat (first | exact List.Mem.head _ | assumption | apply List.Mem.tail))) | apply Pick.there))) | (refine Ent.trans (Ent.drop _ _) ?_))
      · skip
        refine SG.block ?_
        refine SG.seq ?_
        refine SG.seq ?_
        refine SG.region ?_
        refine RL.cmp (Wanted.free rfl) (V.bin rfl rfl rfl B.eql) rfl (fun h154 => ?_) (fun h154 => ?_)
        · skip
          refine RL.val (Wanted.free rfl) (V.assign rfl rfl) rfl ?_
          refine RL.nil ?_
          refine SG.cond_true rfl ?_
          refine SG.skip ?_
          refine SG.cond_true rfl ?_
          refine SG.seq ?_
          refine SG.region ?_
          refine RL.val (Wanted.free rfl) (V.move rfl rfl) rfl ?_
          refine RL.val (Wanted.free rfl) (V.move rfl rfl) rfl ?_
          refine RL.val (Wanted.free rfl) (V.move rfl rfl) rfl ?_
          refine RL.val (Wanted.free rfl) (V.move rfl rfl) rfl ?_
          refine RL.val (Wanted.free rfl) (V.indexSl (j := i) rfl el22.slice rfl rfl (by repeat (first | exact List.Mem.head _ | assumption | apply List.Mem.tail)) (by first | rfl | omega) (by omega)) rfl ?_
          refine RL.val (Wanted.free rfl) (V.loadAt rfl ag35 rfl (by repeat (first | exact List.Mem.head _ | assumption | apply List.Mem.tail)) rfl) rfl ?_
          refine RL.eff (Wanted.free rfl) (E.call rfl go25 rfl (tWrite_ok hD hC (by repeat (first | exact Ent.refl _ | (apply Ent.cons; (· repeat (first | exact Pick.here | (refine Pick.sl ?_; (· repeat (first | exact List.Mem.head _ | assumption | apply List.Mem.tail))) | apply Pick.there))) | (refine Ent.trans (Ent.drop _ _) ?_))) (by omega) (o := os[i]) hok2 (by repeat (first | exact List.Mem.head _ | assumption | apply List.Mem.tail)))) rfl ?_
          rintro _ _ ⟨k52, s52, rfl, hk52, hs52, rfl⟩
          refine RL.val (Wanted.free rfl) (V.not rfl rfl) rfl ?_
          refine RL.nil ?_
          refine SG.cond_false rfl ?_
          refine SG.skip ?_
          refine SG.inBlock ?_
          refine SG.weaken (rest (D.add k52 s52, (D.add k52 s52).S, fun _ l => l) (Act1.same (hD.add (by omega) (by omega) hs52) (hC.add _ _) (by omega))) ?_ ?_
          · repeat (first | exact EnvLe.nil _ | refine EnvLe.cons rfl ?_)
          · repeat (first | exact Ent.refl _ | (apply Ent.cons; (· repeat (first | exact Pick.here | (refine Pick.sl ?_; (· repeat (first | exact List.Mem.head _ | assumption | apply List.Mem.tail))) | apply Pick.there))) | (refine Ent.trans (Ent.drop _ _) ?_))
        · skip
          refine RL.val (Wanted.free rfl) (V.assign rfl rfl) rfl ?_
          refine RL.nil ?_
          refine SG.cond_false rfl ?_
          refine SG.region ?_
          refine RL.cmp (Wanted.free rfl) (V.bin rfl rfl rfl B.eql) rfl (fun h164 => ?_) (fun h164 => ?_)
          · skip
            refine RL.val (Wanted.free rfl) (V.assign rfl rfl) rfl ?_
            refine RL.nil ?_
            refine SG.cond_true rfl ?_
            refine SG.seq ?_
            refine SG.region ?_
            refine RL.val (Wanted.free rfl) (V.move rfl rfl) rfl ?_
            refine RL.val (Wanted.free rfl) (V.move rfl rfl) rfl ?_
            refine RL.val (Wanted.free rfl) (V.move rfl rfl) rfl ?_
            refine RL.val (Wanted.free rfl) (V.move rfl rfl) rfl ?_
            refine RL.val (Wanted.free rfl) (V.indexSl (j := i) rfl el22.slice rfl rfl (by repeat (first | exact List.Mem.head _ | assumption | apply List.Mem.tail)) (by first | rfl | omega) (by omega)) rfl ?_
            refine RL.val (Wanted.free rfl) (V.loadAt rfl ag35 rfl (by repeat (first | exact List.Mem.head _ | assumption | apply List.Mem.tail)) rfl) rfl ?_
            refine RL.eff (Wanted.free rfl) (E.call rfl go25 rfl (tWrite_ok hD hC (by repeat (first | exact Ent.refl _ | (apply Ent.cons; (· repeat (first | exact Pick.here | (refine Pick.sl ?_; (· repeat (first | exact List.Mem.head _ | assumption | apply List.Mem.tail))) | apply Pick.there))) | (refine Ent.trans (Ent.drop _ _) ?_))) (by omega) (o := os[i]) hok2 (by repeat (first | exact List.Mem.head _ | assumption | apply List.Mem.tail)))) rfl ?_
            rintro _ _ ⟨k52, s52, rfl, hk52, hs52, rfl⟩
            refine RL.val (Wanted.free rfl) (V.not rfl rfl) rfl ?_
            refine RL.nil ?_
            refine SG.cond_false rfl ?_
            refine SG.skip ?_
            refine SG.inBlock ?_
            refine SG.weaken (rest (D.add k52 s52, (D.add k52 s52).S, fun _ l => l) (Act1.same (hD.add (by omega) (by omega) hs52) (hC.add _ _) (by omega))) ?_ ?_
            · repeat (first | exact EnvLe.nil _ | refine EnvLe.cons rfl ?_)
            · repeat (first | exact Ent.refl _ | (apply Ent.cons; (· repeat (first | exact Pick.here | (refine Pick.sl ?_; (· repeat (first | exact List.Mem.head _ | assumption | apply List.Mem.tail))) | apply Pick.there))) | (refine Ent.trans (Ent.drop _ _) ?_))
          · skip
            refine RL.val (Wanted.free rfl) (V.assign rfl rfl) rfl ?_
            refine RL.nil ?_
            refine SG.cond_false rfl ?_
            refine SG.seq ?_
            refine SG.region ?_
            refine RL.cmp (Wanted.free rfl) (V.bin rfl rfl rfl B.eql) rfl (fun h174 => ?_) (fun h174 => ?_)
            · skip
              refine RL.val (Wanted.free rfl) (V.assign rfl rfl) rfl ?_
              refine RL.nil ?_
              refine SG.cond_true rfl ?_
              refine SG.seq ?_
              refine SG.region ?_
              refine RL.val (Wanted.free rfl) (V.move rfl rfl) rfl ?_
              refine RL.val (Wanted.free rfl) (V.move rfl rfl) rfl ?_
              refine RL.eff (Wanted.free rfl) (E.call rfl go26 rfl (tFlush_ok hD hC (by repeat (first | exact Ent.refl _ | (apply Ent.cons; (· repeat (first | exact Pick.here | (refine Pick.sl ?_; (· repeat (first | exact List.Mem.head _ | assumption | apply List.Mem.tail))) | apply Pick.there))) | (refine Ent.trans (Ent.drop _ _) ?_))) (by omega))) rfl ?_
              rintro _ _ ⟨rfl, rfl⟩
              refine RL.val (Wanted.free rfl) (V.not rfl rfl) rfl ?_
              refine RL.nil ?_
              refine SG.cond_false rfl ?_
              refine SG.skip ?_
              refine SG.inBlock ?_
              refine SG.weaken (rest (D.flushed, D.flushed.S, fun _ l => l) (Act1.same (hD.flushed.mono (by omega)) hC.flushed (by omega))) ?_ ?_
              · repeat (first | exact EnvLe.nil _ | refine EnvLe.cons rfl ?_)
              · repeat (first | exact Ent.refl _ | (apply Ent.cons; (· repeat (first | exact Pick.here | (refine Pick.sl ?_; (· repeat (first | exact List.Mem.head _ | assumption | apply List.Mem.tail))) | apply Pick.there))) | (refine Ent.trans (Ent.drop _ _) ?_))
            · skip
              refine RL.val (Wanted.free rfl) (V.assign rfl rfl) rfl ?_
              refine RL.nil ?_
              refine SG.cond_false rfl ?_
              refine SG.region ?_
              refine RL.val (Wanted.free rfl) (V.move rfl rfl) rfl ?_
              refine RL.val (Wanted.free rfl) (V.move rfl rfl) rfl ?_
              refine RL.val (Wanted.free rfl) (V.move rfl rfl) rfl ?_
              refine RL.val (Wanted.free rfl) (V.indexSl (j := i) rfl el22.slice rfl rfl (by repeat (first | exact List.Mem.head _ | assumption | apply List.Mem.tail)) (by first | rfl | omega) (by omega)) rfl ?_
              refine RL.val (Wanted.free rfl) (V.fieldAt rfl rfl fo35_4 (by repeat (first | exact List.Mem.head _ | assumption | apply List.Mem.tail))) rfl ?_
              refine RL.val (Wanted.free rfl) (V.loadAtF rfl on33 rfl (by repeat (first | exact List.Mem.head _ | assumption | apply List.Mem.tail)) rfl) rfl ?_
              refine RL.eff (Wanted.free rfl) (E.call rfl go27 rfl (dRestart_ok hD (b := b) (by repeat (first | exact Pick.here | assumption | apply Pick.there)) (ts := os[i].l) (by repeat (first | exact List.Mem.head _ | assumption | apply List.Mem.tail)) (by omega) (by omega))) rfl ?_
              rintro _ _ ⟨rfl, rfl⟩
              refine RL.nil ?_
              refine SG.inBlock ?_
              refine SG.weaken (rest (D.restart os[i].l, D.S, fun k l => [left l (firstOf os[i].l k)]) (Act1.again hD (by omega))) ?_ ?_
              · repeat (first | exact EnvLe.nil _ | refine EnvLe.cons rfl ?_)
              · repeat (first | exact Ent.refl _ | (apply Ent.cons; (· repeat (first | exact Pick.here | (refine Pick.sl ?_; (· repeat (first | exact List.Mem.head _ | assumption | apply List.Mem.tail))) | apply Pick.there))) | (refine Ent.trans (Ent.drop _ _) ?_))
    · skip
      refine RL.val (Wanted.free rfl) (V.pick_true rfl rfl rfl) rfl ?_
      refine RL.nil ?_
      refine SG.cond_false rfl ?_
      refine SG.exit rfl ?_
      refine SG.seq ?_
      refine SG.region ?_
      refine RL.eff (Wanted.free rfl) (E.call rfl go17 rfl (lives_ok)) rfl ?_
      rintro _ _ ⟨rfl, rfl⟩
      refine RL.val (Wanted.free rfl) (V.assign rfl rfl) rfl ?_
      refine RL.nil ?_
      refine SG.retE (Ret.r1 Try.func5 rfl (.tmp rfl)) ?_ ⟨rfl, rfl⟩
      repeat (first | exact Ent.refl _ | (apply Ent.cons; (· repeat (first | exact Pick.here | (refine Pick.sl ?_; (· repeat (first | exact List.Mem.head _ | assumption | apply List.Mem.tail))) | apply Pick.there))) | (refine Ent.trans (Ent.drop _ _) ?_))
  · skip
    refine RL.val (Wanted.free rfl) (V.move rfl rfl) rfl ?_
    refine RL.skip (Wanted.no rfl rfl rfl rfl rfl) rfl ?_
    refine RL.skip (Wanted.no rfl rfl rfl rfl rfl) rfl ?_
    refine RL.val (Wanted.free rfl) (V.pick_false rfl rfl rfl) rfl ?_
    refine RL.nil ?_
    refine SG.cond_false rfl ?_
    refine SG.exit rfl ?_
    refine SG.seq ?_
    refine SG.region ?_
    refine RL.eff (Wanted.free rfl) (E.call rfl go17 rfl (lives_ok)) rfl ?_
    rintro _ _ ⟨rfl, rfl⟩
    refine RL.val (Wanted.free rfl) (V.assign rfl rfl) rfl ?_
    refine RL.nil ?_
    refine SG.retE (Ret.r1 Try.func5 rfl (.tmp rfl)) ?_ ⟨rfl, rfl⟩
    repeat (first | exact Ent.refl _ | (apply Ent.cons; (· repeat (first | exact Pick.here | (refine Pick.sl ?_; (· repeat (first | exact List.Mem.head _ | assumption | apply List.Mem.tail))) | apply Pick.there))) | (refine Ent.trans (Ent.drop _ _) ?_))

end Go.Proofs.Yteghgfgkkpfcaaa
