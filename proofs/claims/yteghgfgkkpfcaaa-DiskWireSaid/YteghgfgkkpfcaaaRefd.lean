/- The reference's disk. -/
import Derived.Test.YteghgfgkkpfcaaaRefs
import Derived.Test.YteghgfgkkpfcaaaDPlain3
namespace Go.Proofs.Yteghgfgkkpfcaaa
open Go.Wk Go.Dsk

def rf (f : Int) : Int := if f = 0 then -1 else f
/-- The reference's disk at block b. -/
def RDsk (b : Nat) (D : Dk) : Assn := Exp (fun (_ : Addr × Nat) => True) fun x => [Blk b 87 [.slice (some x.1) D.S.length x.2, .bool D.off, vI (rf D.fuse)], Nest (Rep.slice R8) 32 56 (some x.1) D.S.length x.2 D.S]
section
variable {P : Program} {f : FuncId} {n : Nat} {κ : World} {K : Post} {k : List Item} {L L1 L' : List Assn} {al : List (Nat × Value)} {b : Nat} {D : Dk}
theorem SG.openR (hp : Pick (RDsk b D) L L1) (h : ∀ ad c, SG P f n κ K k al (Blk b 87 [.slice (some ad) D.S.length c, .bool D.off, vI (rf D.fuse)] :: Nest (Rep.slice R8) 32 56 (some ad) D.S.length c D.S :: L1)) : SG P f n κ K k al L := SG.openExp hp fun x _ => h x.1 x.2
theorem RDsk.ent {ad : Addr} {c : Nat} (h : Ent L' (Blk b 87 [.slice (some ad) D.S.length c, .bool D.off, vI (rf D.fuse)] :: Nest (Rep.slice R8) 32 56 (some ad) D.S.length c D.S :: L)) : Ent L' (RDsk b D :: L) :=
  h.trans (Exp.close (ι := Addr × Nat) (p := fun _ => True) (A := fun x => [Blk b 87 [.slice (some x.1) D.S.length x.2, .bool D.off, vI (rf D.fuse)], Nest (Rep.slice R8) 32 56 (some x.1) D.S.length x.2 D.S]) (ad, c) trivial)
end

set_option maxRecDepth 100000 in
theorem rSpend_ok {κ : World} {L : List Assn} {L1 : List Assn} {b : Nat} {D : Dk} {m0 : Nat} (hD : D.ok m0) (hp : Pick (RDsk b D) L L1) (hoff : D.off = false) :
    Ctr Try.prog 62 #[ptr b 0] κ L (fun v M => v = .tuple #[] ∧ M = RDsk b D.spend :: L1) := by
  refine Ctr.enter (vs := [ptr b 0]) (m := 26) Try.func62 rfl rfl rfl ?_
  refine SG.openR hp fun ad c => ?_
  have hf := hD.fuse
  generalize hg : rf D.fuse = g
  have hg2 : (D.fuse = 0 ∧ g = -1) ∨ (0 < D.fuse ∧ g = D.fuse) := by unfold rf at hg; split at hg <;> omega
  refine SG.seq ?_
  refine SG.region ?_
  refine RL.val (Wanted.free rfl) (V.move rfl rfl) rfl ?_
  refine RL.val (Wanted.free rfl) (V.nilCheck rfl rfl) rfl ?_
  refine RL.val (Wanted.free rfl) (V.fieldAddr rfl rfl fo87_2) rfl ?_
  refine RL.val (Wanted.free rfl) (V.load rfl on3 rfl (by repeat (first | exact Pick.here | assumption | apply Pick.there)) rfl) rfl ?_
  refine RL.cmp (Wanted.free rfl) (V.bin rfl rfl rfl B.gtr) rfl (fun h5 => ?_) (fun h5 => ?_)
  · skip
    have hgf : g = D.fuse := by omega
    subst hgf
    have hsp : D.spend = { D with fuse := D.fuse - 1, off := decide (D.fuse - 1 = 0) } := if_pos (by omega)
    rw [hsp]
    refine RL.nil ?_
    refine SG.cond_true rfl ?_
    refine SG.seq ?_
    refine SG.region ?_
    refine RL.val (Wanted.free rfl) (V.move rfl rfl) rfl ?_
    refine RL.val (Wanted.free rfl) (V.move rfl rfl) rfl ?_
    refine RL.val (Wanted.free rfl) (V.nilCheck rfl rfl) rfl ?_
    refine RL.val (Wanted.free rfl) (V.fieldAddr rfl rfl fo87_2) rfl ?_
    refine RL.val (Wanted.free rfl) (V.load rfl on3 rfl (by repeat (first | exact Pick.here | assumption | apply Pick.there)) rfl) rfl ?_
    refine RL.val (Wanted.free rfl) (V.bin rfl rfl rfl (B.subI (by omega) (by omega))) rfl ?_
    refine RL.val (Wanted.free rfl) (V.nilCheck rfl rfl) rfl ?_
    refine RL.val (Wanted.free rfl) (V.fieldAddr rfl rfl fo87_2) rfl ?_
    refine RL.eff (Wanted.free rfl) (E.store1 rfl rfl rfl rfl rfl sz3 (by repeat (first | exact Pick.here | assumption | apply Pick.there)) rfl) rfl ?_
    rintro _ _ rfl
    refine RL.nil ?_
    refine SG.seq ?_
    refine SG.region ?_
    refine RL.val (Wanted.free rfl) (V.move rfl rfl) rfl ?_
    refine RL.val (Wanted.free rfl) (V.nilCheck rfl rfl) rfl ?_
    refine RL.val (Wanted.free rfl) (V.fieldAddr rfl rfl fo87_2) rfl ?_
    refine RL.val (Wanted.free rfl) (V.load rfl on3 rfl (by repeat (first | exact Pick.here | assumption | apply Pick.there)) rfl) rfl ?_
    refine RL.cmp (Wanted.free rfl) (V.bin rfl rfl rfl B.eql) rfl (fun h19 => ?_) (fun h19 => ?_)
    · skip
      refine RL.nil ?_
      refine SG.cond_true rfl ?_
      refine SG.seq ?_
      refine SG.region ?_
      refine RL.val (Wanted.free rfl) (V.move rfl rfl) rfl ?_
      refine RL.val (Wanted.free rfl) (V.nilCheck rfl rfl) rfl ?_
      refine RL.val (Wanted.free rfl) (V.fieldAddr rfl rfl fo87_1) rfl ?_
      refine RL.eff (Wanted.free rfl) (E.store1 rfl rfl rfl rfl rfl sz4 (by repeat (first | exact Pick.here | assumption | apply Pick.there)) rfl) rfl ?_
      rintro _ _ rfl
      refine RL.nil ?_
      refine SG.region ?_
      refine RL.val (Wanted.free rfl) (V.move rfl rfl) rfl ?_
      refine RL.val (Wanted.free rfl) (V.nilCheck rfl rfl) rfl ?_
      refine RL.val (Wanted.free rfl) (V.fieldAddr rfl rfl fo87_2) rfl ?_
      refine RL.eff (Wanted.free rfl) (E.store1 rfl rfl rfl rfl rfl sz3 (by repeat (first | exact Pick.here | assumption | apply Pick.there)) rfl) rfl ?_
      rintro _ _ rfl
      refine RL.nil ?_
      have h0 : D.fuse - 1 = 0 := by omega
      refine SG.doneE (Ret.none Try.func62 rfl) ?_ ⟨rfl, rfl⟩
      refine RDsk.ent (ad := ad) (c := c) ?_
      simp only [h0, decide_true, show rf 0 = -1 from rfl]
      repeat (first | exact Ent.refl _ | (apply Ent.cons; (· repeat (first | exact Pick.here | (refine Pick.sl ?_; (· repeat (first | exact List.Mem.head _ | assumption | apply List.Mem.tail))) | apply Pick.there))) | (refine Ent.trans (Ent.drop _ _) ?_))
    · skip
      refine RL.nil ?_
      refine SG.cond_false rfl ?_
      refine SG.skip ?_
      have h0 : ¬ D.fuse - 1 = 0 := by omega
      have h1 : rf (D.fuse - 1) = D.fuse - 1 := if_neg h0
      refine SG.doneE (Ret.none Try.func62 rfl) ?_ ⟨rfl, rfl⟩
      refine RDsk.ent (ad := ad) (c := c) ?_
      simp only [h0, h1, decide_false, hoff]
      repeat (first | exact Ent.refl _ | (apply Ent.cons; (· repeat (first | exact Pick.here | (refine Pick.sl ?_; (· repeat (first | exact List.Mem.head _ | assumption | apply List.Mem.tail))) | apply Pick.there))) | (refine Ent.trans (Ent.drop _ _) ?_))
  · skip
    have hsp : D.spend = D := if_neg (by omega)
    rw [hsp]
    refine RL.nil ?_
    refine SG.cond_false rfl ?_
    refine SG.skip ?_
    refine SG.doneE (Ret.none Try.func62 rfl) ?_ ⟨rfl, rfl⟩
    refine RDsk.ent (ad := ad) (c := c) ?_
    rw [hg]
    repeat (first | exact Ent.refl _ | (apply Ent.cons; (· repeat (first | exact Pick.here | (refine Pick.sl ?_; (· repeat (first | exact List.Mem.head _ | assumption | apply List.Mem.tail))) | apply Pick.there))) | (refine Ent.trans (Ent.drop _ _) ?_))

set_option maxRecDepth 100000 in
theorem rBlow_ok {κ : World} {L : List Assn} {L1 : List Assn} {b : Nat} {D : Dk} {m0 : Nat} (hD : D.ok m0) (hp : Pick (RDsk b D) L L1) (n : Int) (h1 : -9223372036854775808 ≤ n) (h2 : n ≤ 9223372036854775807) :
    Ctr Try.prog 49 #[ptr b 0, vI n] κ L (fun v M => v = .tuple #[] ∧ M = RDsk b (D.blow n) :: L1) := by
  refine Ctr.enter (vs := [ptr b 0, vI n]) (m := 22) Try.func49 rfl rfl rfl ?_
  refine SG.openR hp fun ad c => ?_
  refine SG.seq ?_
  refine SG.seq ?_
  refine SG.region ?_
  refine RL.val (Wanted.free rfl) (V.move rfl rfl) rfl ?_
  refine RL.val (Wanted.free rfl) (V.nilCheck rfl rfl) rfl ?_
  refine RL.val (Wanted.free rfl) (V.fieldAddr rfl rfl fo87_1) rfl ?_
  refine RL.val (Wanted.free rfl) (V.load rfl on4 rfl (by repeat (first | exact Pick.here | assumption | apply Pick.there)) rfl) rfl ?_
  refine RL.nil ?_
  refine SG.cond rfl (fun h5 => ?_) (fun h5 => ?_)
  · skip
    have hb : D.blow n = D := by unfold Dk.blow; rw [if_pos (by assumption)]
    rw [hb]
    refine SG.retE (Ret.none Try.func49 rfl) ?_ ⟨rfl, rfl⟩
    refine RDsk.ent (ad := ad) (c := c) ?_
    repeat (first | exact Ent.refl _ | (apply Ent.cons; (· repeat (first | exact Pick.here | (refine Pick.sl ?_; (· repeat (first | exact List.Mem.head _ | assumption | apply List.Mem.tail))) | apply Pick.there))) | (refine Ent.trans (Ent.drop _ _) ?_))
  · skip
    have hb : D.blow n = { D with fuse := if n < 0 then 0 else n, off := decide (n = 0) } := by unfold Dk.blow; rw [if_neg (by simp_all)]
    rw [hb]
    refine SG.skip ?_
    refine SG.seq ?_
    refine SG.region ?_
    refine RL.val (Wanted.free rfl) (V.move rfl rfl) rfl ?_
    refine RL.val (Wanted.free rfl) (V.move rfl rfl) rfl ?_
    refine RL.val (Wanted.free rfl) (V.nilCheck rfl rfl) rfl ?_
    refine RL.val (Wanted.free rfl) (V.fieldAddr rfl rfl fo87_2) rfl ?_
    refine RL.eff (Wanted.free rfl) (E.store1 rfl rfl rfl rfl rfl sz3 (by repeat (first | exact Pick.here | assumption | apply Pick.there)) rfl) rfl ?_
    rintro _ _ rfl
    refine RL.nil ?_
    refine SG.seq ?_
    refine SG.seq ?_
    refine SG.region ?_
    refine RL.val (Wanted.free rfl) (V.move rfl rfl) rfl ?_
    refine RL.cmp (Wanted.free rfl) (V.bin rfl rfl rfl B.leq) rfl (fun h12 => ?_) (fun h12 => ?_)
    · skip
      have hr : rf (if n < 0 then 0 else n) = -1 := by unfold rf; rw [if_pos (by split <;> omega)]
      refine RL.nil ?_
      refine SG.cond_true rfl ?_
      refine SG.region ?_
      refine RL.val (Wanted.free rfl) (V.move rfl rfl) rfl ?_
      refine RL.val (Wanted.free rfl) (V.nilCheck rfl rfl) rfl ?_
      refine RL.val (Wanted.free rfl) (V.fieldAddr rfl rfl fo87_2) rfl ?_
      refine RL.eff (Wanted.free rfl) (E.store1 rfl rfl rfl rfl rfl sz3 (by repeat (first | exact Pick.here | assumption | apply Pick.there)) rfl) rfl ?_
      rintro _ _ rfl
      refine RL.nil ?_
      refine SG.region ?_
      refine RL.val (Wanted.free rfl) (V.move rfl rfl) rfl ?_
      refine RL.val (Wanted.free rfl) (V.move rfl rfl) rfl ?_
      refine RL.cmp (Wanted.free rfl) (V.bin rfl rfl rfl B.eql) rfl (fun h19 => ?_) (fun h19 => ?_)
      · skip
        refine RL.val (Wanted.free rfl) (V.nilCheck rfl rfl) rfl ?_
        refine RL.val (Wanted.free rfl) (V.fieldAddr rfl rfl fo87_1) rfl ?_
        refine RL.eff (Wanted.free rfl) (E.store1 rfl rfl rfl rfl rfl sz4 (by repeat (first | exact Pick.here | assumption | apply Pick.there)) rfl) rfl ?_
        rintro _ _ rfl
        refine RL.nil ?_
        refine SG.doneE (Ret.none Try.func49 rfl) ?_ ⟨rfl, rfl⟩
        refine RDsk.ent (ad := ad) (c := c) ?_
        show Ent _ (Blk b 87 [.slice (some ad) D.S.length c, .bool (decide (n = 0)), vI (rf (if n < 0 then 0 else n))] :: _)
        rw [hr]
        first | rw [decide_eq_true (by assumption)] | rw [decide_eq_false (by assumption)]
        repeat (first | exact Ent.refl _ | (apply Ent.cons; (· repeat (first | exact Pick.here | (refine Pick.sl ?_; (· repeat (first | exact List.Mem.head _ | assumption | apply List.Mem.tail))) | apply Pick.there))) | (refine Ent.trans (Ent.drop _ _) ?_))
      · skip
        refine RL.val (Wanted.free rfl) (V.nilCheck rfl rfl) rfl ?_
        refine RL.val (Wanted.free rfl) (V.fieldAddr rfl rfl fo87_1) rfl ?_
        refine RL.eff (Wanted.free rfl) (E.store1 rfl rfl rfl rfl rfl sz4 (by repeat (first | exact Pick.here | assumption | apply Pick.there)) rfl) rfl ?_
        rintro _ _ rfl
        refine RL.nil ?_
        refine SG.doneE (Ret.none Try.func49 rfl) ?_ ⟨rfl, rfl⟩
        refine RDsk.ent (ad := ad) (c := c) ?_
        show Ent _ (Blk b 87 [.slice (some ad) D.S.length c, .bool (decide (n = 0)), vI (rf (if n < 0 then 0 else n))] :: _)
        rw [hr]
        first | rw [decide_eq_true (by assumption)] | rw [decide_eq_false (by assumption)]
        repeat (first | exact Ent.refl _ | (apply Ent.cons; (· repeat (first | exact Pick.here | (refine Pick.sl ?_; (· repeat (first | exact List.Mem.head _ | assumption | apply List.Mem.tail))) | apply Pick.there))) | (refine Ent.trans (Ent.drop _ _) ?_))
    · skip
      have hr : rf (if n < 0 then 0 else n) = n := by unfold rf; rw [if_neg (by split <;> omega), if_neg (by omega)]
      refine RL.nil ?_
      refine SG.cond_false rfl ?_
      refine SG.skip ?_
      refine SG.region ?_
      refine RL.val (Wanted.free rfl) (V.move rfl rfl) rfl ?_
      refine RL.val (Wanted.free rfl) (V.move rfl rfl) rfl ?_
      refine RL.cmp (Wanted.free rfl) (V.bin rfl rfl rfl B.eql) rfl (fun h28 => ?_) (fun h28 => ?_)
      · skip
        refine RL.val (Wanted.free rfl) (V.nilCheck rfl rfl) rfl ?_
        refine RL.val (Wanted.free rfl) (V.fieldAddr rfl rfl fo87_1) rfl ?_
        refine RL.eff (Wanted.free rfl) (E.store1 rfl rfl rfl rfl rfl sz4 (by repeat (first | exact Pick.here | assumption | apply Pick.there)) rfl) rfl ?_
        rintro _ _ rfl
        refine RL.nil ?_
        refine SG.doneE (Ret.none Try.func49 rfl) ?_ ⟨rfl, rfl⟩
        refine RDsk.ent (ad := ad) (c := c) ?_
        show Ent _ (Blk b 87 [.slice (some ad) D.S.length c, .bool (decide (n = 0)), vI (rf (if n < 0 then 0 else n))] :: _)
        rw [hr]
        first | rw [decide_eq_true (by assumption)] | rw [decide_eq_false (by assumption)]
        repeat (first | exact Ent.refl _ | (apply Ent.cons; (· repeat (first | exact Pick.here | (refine Pick.sl ?_; (· repeat (first | exact List.Mem.head _ | assumption | apply List.Mem.tail))) | apply Pick.there))) | (refine Ent.trans (Ent.drop _ _) ?_))
      · skip
        refine RL.val (Wanted.free rfl) (V.nilCheck rfl rfl) rfl ?_
        refine RL.val (Wanted.free rfl) (V.fieldAddr rfl rfl fo87_1) rfl ?_
        refine RL.eff (Wanted.free rfl) (E.store1 rfl rfl rfl rfl rfl sz4 (by repeat (first | exact Pick.here | assumption | apply Pick.there)) rfl) rfl ?_
        rintro _ _ rfl
        refine RL.nil ?_
        refine SG.doneE (Ret.none Try.func49 rfl) ?_ ⟨rfl, rfl⟩
        refine RDsk.ent (ad := ad) (c := c) ?_
        show Ent _ (Blk b 87 [.slice (some ad) D.S.length c, .bool (decide (n = 0)), vI (rf (if n < 0 then 0 else n))] :: _)
        rw [hr]
        first | rw [decide_eq_true (by assumption)] | rw [decide_eq_false (by assumption)]
        repeat (first | exact Ent.refl _ | (apply Ent.cons; (· repeat (first | exact Pick.here | (refine Pick.sl ?_; (· repeat (first | exact List.Mem.head _ | assumption | apply List.Mem.tail))) | apply Pick.there))) | (refine Ent.trans (Ent.drop _ _) ?_))

set_option maxRecDepth 100000 in
theorem rLast_ok {κ : World} {L : List Assn} {L1 L2 L3 : List Assn} {b kn n c m1 c1 : Nat} {ad : Addr} {a1 : Option Addr} {v1 v2 : Value} {ts : List Tri} {l : List Sec} (h1 : Pick (Blk b 87 [.slice (some ad) n c, v1, v2]) L L1) (h2 : Pick (Buf RTri 56 (some ad) n c ts) L L2) (hts : ts[kn]? = some (a1, m1, c1))
    (h3 : Pick (Buf (Rep.slice R8) 32 a1 m1 c1 l) L L3) (hl : l ≠ []) :
    Ctr Try.prog 63 #[ptr b 0, vI kn] κ L (fun v M => ∃ a' m' c', v = .slice a' m' c' ∧ M = Sl R8 a' m' c' (lst l) :: L) := by
  refine Ctr.enter (vs := [ptr b 0, vI kn]) (m := 23) Try.func63 rfl rfl rfl ?_
  refine SG.buf h3 fun hm1 hmc1 hc1 => ?_
  refine SG.buf h2 fun hm2 hmc2 hc2 => ?_
  have hpos := List.length_pos_iff.2 hl
  have hkn := (List.getElem?_eq_some_iff.1 hts).1
  refine SG.seq ?_
  refine SG.region ?_
  refine RL.val (Wanted.free rfl) (V.assign rfl rfl) rfl ?_
  refine RL.nil ?_
  refine SG.seq ?_
  refine SG.drawL 19 19 wide rfl rfl ?_
  refine RH.val 0 rfl (by kernel_rfl) (by kernel_rfl) (by kernel_rfl) (by kernel_rfl) (Wanted.free rfl) (V.move rfl rfl) rfl ?_
  refine RH.val 1 rfl (by kernel_rfl) (by kernel_rfl) (by kernel_rfl) (by kernel_rfl) (Wanted.free rfl) (V.nilCheck rfl rfl) rfl ?_
  refine RH.val 2 rfl (by kernel_rfl) (by kernel_rfl) (by kernel_rfl) (by kernel_rfl) (Wanted.free rfl) (V.fieldAddr rfl rfl fo87_0) rfl ?_
  refine RH.val 3 rfl (by kernel_rfl) (by kernel_rfl) (by kernel_rfl) (by kernel_rfl) (Wanted.free rfl) (V.load rfl on53 rfl h1 rfl) rfl ?_
  refine RH.val 4 rfl (by kernel_rfl) (by kernel_rfl) (by kernel_rfl) (by kernel_rfl) (Wanted.free rfl) (V.move rfl rfl) rfl ?_
  refine RH.val 5 rfl (by kernel_rfl) (by kernel_rfl) (by kernel_rfl) (by kernel_rfl) (Wanted.free rfl) (V.indexAd (j := kn) rfl el53.slice rfl rfl (by first | rfl | omega) (by omega)) rfl ?_
  refine RH.val 6 rfl (by kernel_rfl) (by kernel_rfl) (by kernel_rfl) (by kernel_rfl) (Wanted.free rfl) (V.loadTri rfl on56 rfl h2 hts) rfl ?_
  refine RH.val 7 rfl (by kernel_rfl) (by kernel_rfl) (by kernel_rfl) (by kernel_rfl) (Wanted.free rfl) (V.move rfl rfl) rfl ?_
  refine RH.val 8 rfl (by kernel_rfl) (by kernel_rfl) (by kernel_rfl) (by kernel_rfl) (Wanted.free rfl) (V.nilCheck rfl rfl) rfl ?_
  refine RH.val 9 rfl (by kernel_rfl) (by kernel_rfl) (by kernel_rfl) (by kernel_rfl) (Wanted.free rfl) (V.fieldAddr rfl rfl fo87_0) rfl ?_
  refine RH.val 10 rfl (by kernel_rfl) (by kernel_rfl) (by kernel_rfl) (by kernel_rfl) (Wanted.free rfl) (V.load rfl on53 rfl h1 rfl) rfl ?_
  refine RH.val 11 rfl (by kernel_rfl) (by kernel_rfl) (by kernel_rfl) (by kernel_rfl) (Wanted.free rfl) (V.move rfl rfl) rfl ?_
  refine RH.val 12 rfl (by kernel_rfl) (by kernel_rfl) (by kernel_rfl) (by kernel_rfl) (Wanted.free rfl) (V.indexAd (j := kn) rfl el53.slice rfl rfl (by first | rfl | omega) (by omega)) rfl ?_
  refine RH.val 13 rfl (by kernel_rfl) (by kernel_rfl) (by kernel_rfl) (by kernel_rfl) (Wanted.free rfl) (V.loadTri rfl on56 rfl h2 hts) rfl ?_
  refine RH.val 14 rfl (by kernel_rfl) (by kernel_rfl) (by kernel_rfl) (by kernel_rfl) (Wanted.free rfl) (V.len rfl rfl el56.under rfl) rfl ?_
  refine RH.val 15 rfl (by kernel_rfl) (by kernel_rfl) (by kernel_rfl) (by kernel_rfl) (Wanted.free rfl) (V.bin rfl rfl rfl (B.subI (by omega) (by omega))) rfl ?_
  refine RH.val 16 rfl (by kernel_rfl) (by kernel_rfl) (by kernel_rfl) (by kernel_rfl) (Wanted.free rfl) (V.indexBuf (j := m1 - 1) rfl el56.slice rfl rfl h3 (by omega) (by omega)) rfl ?_
  refine RH.one (i := 17) (by kernel_rfl) ?_
  refine RHone.eff rfl (Wanted.free rfl) (E.loadBufSl (j := m1 - 1) rfl on32 rfl h3 (by rw [← hm1]; exact lst_get hl)) rfl ?_
  rintro _ _ ⟨a22, m22, c22, rfl, rfl⟩
  refine ⟨.inr (by repeat (first | exact Ent.refl _ | (apply Ent.cons; (· repeat (first | exact Pick.here | (refine Pick.sl ?_; (· repeat (first | exact List.Mem.head _ | assumption | apply List.Mem.tail))) | apply Pick.there))) | (refine Ent.trans (Ent.drop _ _) ?_))), ?_⟩
  refine RH.val 18 rfl (by kernel_rfl) (by kernel_rfl) (by kernel_rfl) (by kernel_rfl) (Wanted.free rfl) (V.assign rfl rfl) rfl ?_
  refine RH.done (by kernel_rfl) ?_
  refine SG.retE (Ret.r1 Try.func63 rfl (.tmp rfl)) ?_ ⟨_, _, _, rfl, rfl⟩
  repeat (first | exact Ent.refl _ | (apply Ent.cons; (· repeat (first | exact Pick.here | (refine Pick.sl ?_; (· repeat (first | exact List.Mem.head _ | assumption | apply List.Mem.tail))) | apply Pick.there))) | (refine Ent.trans (Ent.drop _ _) ?_))

set_option maxRecDepth 100000 in
theorem rRead_ok {κ : World} {L : List Assn} {L1 : List Assn} {b : Nat} {D : Dk} {m0 : Nat} (hD : D.ok m0) (hp : Pick (RDsk b D) L L1) (k : Int) (hm0 : m0 ≤ 1000000) :
    Ctr Try.prog 47 #[ptr b 0, vI k] κ L (fun v M => ∃ a m c, v = .tuple #[.slice a m c, vI (D.read k).2] ∧ M = Buf R8 5 a m c (D.read k).1 :: RDsk b D :: L1) := by
  refine Ctr.enter (vs := [ptr b 0, vI k]) (m := 25) Try.func47 rfl rfl rfl ?_
  refine SG.openR hp fun ad c => ?_
  refine SG.seq ?_
  refine SG.region ?_
  refine RL.val (Wanted.free rfl) (V.assign rfl rfl) rfl ?_
  refine RL.val (Wanted.free rfl) (V.assign rfl rfl) rfl ?_
  refine RL.nil ?_
  refine SG.seq ?_
  refine SG.seq ?_
  refine SG.region ?_
  refine RL.val (Wanted.free rfl) (V.move rfl rfl) rfl ?_
  refine RL.cmp (Wanted.free rfl) (V.bin rfl rfl rfl B.lss) rfl (fun h4 => ?_) (fun h4 => ?_)
  · skip
    refine RL.val (Wanted.free rfl) (V.move rfl rfl) rfl ?_
    refine RL.skip (Wanted.no rfl rfl rfl rfl rfl) rfl ?_
    refine RL.skip (Wanted.no rfl rfl rfl rfl rfl) rfl ?_
    refine RL.skip (Wanted.no rfl rfl rfl rfl rfl) rfl ?_
    refine RL.skip (Wanted.no rfl rfl rfl rfl rfl) rfl ?_
    refine RL.skip (Wanted.no rfl rfl rfl rfl rfl) rfl ?_
    refine RL.skip (Wanted.no rfl rfl rfl rfl rfl) rfl ?_
    refine RL.skip (Wanted.no rfl rfl rfl rfl rfl) rfl ?_
    refine RL.val (Wanted.free rfl) (V.pick_true rfl rfl rfl) rfl ?_
    refine RL.nil ?_
    refine SG.cond_true rfl ?_
    refine SG.seq ?_
    have he : D.errOf k = 5 := if_pos (by omega)
    have hr : D.read k = ([], 5) := by rw [Dk.read, he]; rfl
    rw [hr]
    refine SG.ent (Buf.nil (T := R8) (e := 5)) ?_
    refine SG.region ?_
    refine RL.val (Wanted.free rfl) (V.assign rfl rfl) rfl ?_
    refine RL.val (Wanted.free rfl) (V.assign rfl rfl) rfl ?_
    refine RL.nil ?_
    refine SG.retE (Ret.r2 Try.func47 rfl (.tmp rfl) (.tmp rfl)) ?_ ⟨_, _, _, rfl, rfl⟩
    refine Ent.cons (by repeat (first | exact Pick.here | assumption | apply Pick.there)) ?_
    refine RDsk.ent (ad := ad) (c := c) ?_
    repeat (first | exact Ent.refl _ | (apply Ent.cons; (· repeat (first | exact Pick.here | (refine Pick.sl ?_; (· repeat (first | exact List.Mem.head _ | assumption | apply List.Mem.tail))) | apply Pick.there))) | (refine Ent.trans (Ent.drop _ _) ?_))
  · skip
    refine RL.val (Wanted.free rfl) (V.move rfl rfl) rfl ?_
    refine RL.val (Wanted.yes rfl rfl rfl rfl) (V.move rfl rfl) rfl ?_
    refine RL.val (Wanted.yes rfl rfl rfl rfl) (V.move rfl rfl) rfl ?_
    refine RL.val (Wanted.yes rfl rfl rfl rfl) (V.nilCheck rfl rfl) rfl ?_
    refine RL.val (Wanted.yes rfl rfl rfl rfl) (V.fieldAddr rfl rfl fo87_0) rfl ?_
    refine RL.val (Wanted.yes rfl rfl rfl rfl) (V.load rfl on53 rfl (by repeat (first | exact Pick.here | assumption | apply Pick.there)) rfl) rfl ?_
    refine RL.val (Wanted.yes rfl rfl rfl rfl) (V.len rfl rfl el53.under rfl) rfl ?_
    refine RL.cmp (Wanted.yes rfl rfl rfl rfl) (V.bin rfl rfl rfl B.geq) rfl (fun h15 => ?_) (fun h15 => ?_)
    · skip
      refine RL.val (Wanted.free rfl) (V.pick_false rfl rfl rfl) rfl ?_
      refine RL.nil ?_
      refine SG.cond_true rfl ?_
      refine SG.seq ?_
      have he : D.errOf k = 5 := if_pos (by omega)
      have hr : D.read k = ([], 5) := by rw [Dk.read, he]; rfl
      rw [hr]
      refine SG.ent (Buf.nil (T := R8) (e := 5)) ?_
      refine SG.region ?_
      refine RL.val (Wanted.free rfl) (V.assign rfl rfl) rfl ?_
      refine RL.val (Wanted.free rfl) (V.assign rfl rfl) rfl ?_
      refine RL.nil ?_
      refine SG.retE (Ret.r2 Try.func47 rfl (.tmp rfl) (.tmp rfl)) ?_ ⟨_, _, _, rfl, rfl⟩
      refine Ent.cons (by repeat (first | exact Pick.here | assumption | apply Pick.there)) ?_
      refine RDsk.ent (ad := ad) (c := c) ?_
      repeat (first | exact Ent.refl _ | (apply Ent.cons; (· repeat (first | exact Pick.here | (refine Pick.sl ?_; (· repeat (first | exact List.Mem.head _ | assumption | apply List.Mem.tail))) | apply Pick.there))) | (refine Ent.trans (Ent.drop _ _) ?_))
    · skip
      refine RL.val (Wanted.free rfl) (V.pick_false rfl rfl rfl) rfl ?_
      refine RL.nil ?_
      refine SG.cond_false rfl ?_
      refine SG.skip ?_
      refine SG.seq ?_
      refine SG.seq ?_
      refine SG.region ?_
      refine RL.val (Wanted.free rfl) (V.move rfl rfl) rfl ?_
      refine RL.val (Wanted.free rfl) (V.nilCheck rfl rfl) rfl ?_
      refine RL.val (Wanted.free rfl) (V.fieldAddr rfl rfl fo87_1) rfl ?_
      refine RL.val (Wanted.free rfl) (V.load rfl on4 rfl (by repeat (first | exact Pick.here | assumption | apply Pick.there)) rfl) rfl ?_
      refine RL.nil ?_
      refine SG.cond rfl (fun h22 => ?_) (fun h22 => ?_)
      · skip
        have he : D.errOf k = 10 := by unfold Dk.errOf; rw [if_neg (by omega), if_pos (by assumption)]
        have hr : D.read k = ([], 10) := by rw [Dk.read, he]; rfl
        rw [hr]
        refine SG.ent (Buf.nil (T := R8) (e := 5)) ?_
        refine SG.seq ?_
        refine SG.region ?_
        refine RL.val (Wanted.free rfl) (V.assign rfl rfl) rfl ?_
        refine RL.val (Wanted.free rfl) (V.assign rfl rfl) rfl ?_
        refine RL.nil ?_
        refine SG.retE (Ret.r2 Try.func47 rfl (.tmp rfl) (.tmp rfl)) ?_ ⟨_, _, _, rfl, rfl⟩
        refine Ent.cons (by repeat (first | exact Pick.here | assumption | apply Pick.there)) ?_
        refine RDsk.ent (ad := ad) (c := c) ?_
        repeat (first | exact Ent.refl _ | (apply Ent.cons; (· repeat (first | exact Pick.here | (refine Pick.sl ?_; (· repeat (first | exact List.Mem.head _ | assumption | apply List.Mem.tail))) | apply Pick.there))) | (refine Ent.trans (Ent.drop _ _) ?_))
      · skip
        refine SG.skip ?_
        refine SG.seq ?_
        have he0 : D.errOf k = 0 := Dk.errOf_zero.2 ⟨by omega, by omega, by simp_all⟩
        obtain ⟨hk0, hk1, hoff⟩ := Dk.errOf_zero.1 he0
        obtain ⟨kn, rfl⟩ := Int.eq_ofNat_of_zero_le hk0
        have hk := Dk.at_mem hk0 hk1
        rw [Int.toNat_natCast] at hk
        obtain ⟨hl1, hl2, hl3⟩ := hD.all _ (mem_of hk)
        have hr : D.read (kn : Int) = (lst (D.at kn), 0) := if_pos he0
        rw [hr]
        generalize D.at (kn : Int) = l at *
        refine SG.nest (by repeat (first | exact Pick.here | assumption | apply Pick.there)) hk fun ts a1 m1 c1 xs hF => ?_
        have h64 : (lst l).length = 64 := hl3 _ (lst_mem hl1)
        refine SG.region ?_
        refine RL.val (Wanted.free rfl) (V.move rfl rfl) rfl ?_
        refine RL.val (Wanted.free rfl) (V.move rfl rfl) rfl ?_
        refine RL.eff (Wanted.free rfl) (E.call rfl go63 rfl (rLast_ok (kn := kn) (ts := ts) (by repeat (first | exact Pick.here | assumption | apply Pick.there)) (by repeat (first | exact Pick.here | assumption | apply Pick.there)) hF.at_ (by repeat (first | exact Pick.here | assumption | apply Pick.there)) (by assumption))) rfl ?_
        rintro _ _ ⟨a23, m23, c23, rfl, rfl⟩
        refine RL.eff (Wanted.free rfl) (E.call rfl go33 rfl (few_ok (a := a23) (by repeat (first | exact List.Mem.head _ | assumption | apply List.Mem.tail)) (by omega) (by omega))) rfl ?_
        rintro _ _ ⟨a24, k24, c24, rfl, rfl⟩
        rw [show (lst l).take (Int.toNat 64) = lst l from List.take_of_length_le (by rw [h64]; decide)]
        refine RL.val (Wanted.free rfl) (V.assign rfl rfl) rfl ?_
        refine RL.val (Wanted.free rfl) (V.assign rfl rfl) rfl ?_
        refine RL.nil ?_
        refine SG.retE (Ret.r2 Try.func47 rfl (.tmp rfl) (.tmp rfl)) ?_ ⟨_, _, _, rfl, rfl⟩
        refine Ent.cons (by repeat (first | exact Pick.here | assumption | apply Pick.there)) ?_
        refine RDsk.ent (ad := ad) (c := c) ?_
        refine Ent.cons (by repeat (first | exact Pick.here | assumption | apply Pick.there)) ?_
        refine Ent.trans ?_ (hF.back L1)
        repeat (first | exact Ent.refl _ | (apply Ent.cons; (· repeat (first | exact Pick.here | (refine Pick.sl ?_; (· repeat (first | exact List.Mem.head _ | assumption | apply List.Mem.tail))) | apply Pick.there))) | (refine Ent.trans (Ent.drop _ _) ?_))

set_option maxRecDepth 100000 in
theorem rWrite_ok {κ : World} {L : List Assn} {L1 : List Assn} {b : Nat} {D : Dk} {m0 : Nat} (hD : D.ok m0) (hp : Pick (RDsk b D) L L1) (k : Int) {a0 : Option Addr} {n0 c0 : Nat} {s : List UInt8} (hm : Sl R8 a0 n0 c0 s ∈ L1) (hm0 : m0 ≤ 1000000) :
    Ctr Try.prog 46 #[ptr b 0, vI k, .slice a0 n0 c0] κ L (fun v M => v = vI (D.writeE k s) ∧ M = RDsk b (D.write k s) :: L1) := by
  refine Ctr.enter (vs := [ptr b 0, vI k, .slice a0 n0 c0]) (m := 44) Try.func46 rfl rfl rfl ?_
  refine SG.openR hp fun ad c => ?_
  refine SG.sl (List.Mem.tail _ (List.Mem.tail _ hm)) fun hl _ _ => ?_
  refine SG.seq ?_
  refine SG.region ?_
  refine RL.val (Wanted.free rfl) (V.assign rfl rfl) rfl ?_
  refine RL.nil ?_
  refine SG.seq ?_
  refine SG.seq ?_
  refine SG.region ?_
  refine RL.val (Wanted.free rfl) (V.move rfl rfl) rfl ?_
  refine RL.val (Wanted.free rfl) (V.len rfl rfl el32.under rfl) rfl ?_
  refine RL.cmp (Wanted.free rfl) (V.bin rfl rfl rfl B.neq) rfl (fun h4 => ?_) (fun h4 => ?_)
  · skip
    have hw : D.write k s = D := if_neg (by omega)
    have he : D.writeE k s = 1 := if_neg (by omega)
    rw [hw, he]
    refine RL.nil ?_
    refine SG.cond_true rfl ?_
    refine SG.seq ?_
    refine SG.region ?_
    refine RL.val (Wanted.free rfl) (V.assign rfl rfl) rfl ?_
    refine RL.nil ?_
    refine SG.retE (Ret.r1 Try.func46 rfl (.tmp rfl)) ?_ ⟨rfl, rfl⟩
    refine RDsk.ent (ad := ad) (c := c) ?_
    repeat (first | exact Ent.refl _ | (apply Ent.cons; (· repeat (first | exact Pick.here | (refine Pick.sl ?_; (· repeat (first | exact List.Mem.head _ | assumption | apply List.Mem.tail))) | apply Pick.there))) | (refine Ent.trans (Ent.drop _ _) ?_))
  · skip
    obtain rfl : n0 = 64 := by omega
    refine RL.nil ?_
    refine SG.cond_false rfl ?_
    refine SG.skip ?_
    refine SG.seq ?_
    refine SG.seq ?_
    refine SG.region ?_
    refine RL.val (Wanted.free rfl) (V.move rfl rfl) rfl ?_
    refine RL.cmp (Wanted.free rfl) (V.bin rfl rfl rfl B.lss) rfl (fun h7 => ?_) (fun h7 => ?_)
    · skip
      refine RL.val (Wanted.free rfl) (V.move rfl rfl) rfl ?_
      refine RL.skip (Wanted.no rfl rfl rfl rfl rfl) rfl ?_
      refine RL.skip (Wanted.no rfl rfl rfl rfl rfl) rfl ?_
      refine RL.skip (Wanted.no rfl rfl rfl rfl rfl) rfl ?_
      refine RL.skip (Wanted.no rfl rfl rfl rfl rfl) rfl ?_
      refine RL.skip (Wanted.no rfl rfl rfl rfl rfl) rfl ?_
      refine RL.skip (Wanted.no rfl rfl rfl rfl rfl) rfl ?_
      refine RL.skip (Wanted.no rfl rfl rfl rfl rfl) rfl ?_
      refine RL.val (Wanted.free rfl) (V.pick_true rfl rfl rfl) rfl ?_
      refine RL.nil ?_
      refine SG.cond_true rfl ?_
      refine SG.seq ?_
      have he : D.errOf k = 5 := if_pos (by omega)
      have hw : D.write k s = D := if_neg (by omega)
      have hwe : D.writeE k s = 5 := (if_pos (by omega)).trans he
      rw [hw, hwe]
      refine SG.region ?_
      refine RL.val (Wanted.free rfl) (V.assign rfl rfl) rfl ?_
      refine RL.nil ?_
      refine SG.retE (Ret.r1 Try.func46 rfl (.tmp rfl)) ?_ ⟨rfl, rfl⟩
      refine RDsk.ent (ad := ad) (c := c) ?_
      repeat (first | exact Ent.refl _ | (apply Ent.cons; (· repeat (first | exact Pick.here | (refine Pick.sl ?_; (· repeat (first | exact List.Mem.head _ | assumption | apply List.Mem.tail))) | apply Pick.there))) | (refine Ent.trans (Ent.drop _ _) ?_))
    · skip
      refine RL.val (Wanted.free rfl) (V.move rfl rfl) rfl ?_
      refine RL.val (Wanted.yes rfl rfl rfl rfl) (V.move rfl rfl) rfl ?_
      refine RL.val (Wanted.yes rfl rfl rfl rfl) (V.move rfl rfl) rfl ?_
      refine RL.val (Wanted.yes rfl rfl rfl rfl) (V.nilCheck rfl rfl) rfl ?_
      refine RL.val (Wanted.yes rfl rfl rfl rfl) (V.fieldAddr rfl rfl fo87_0) rfl ?_
      refine RL.val (Wanted.yes rfl rfl rfl rfl) (V.load rfl on53 rfl (by repeat (first | exact Pick.here | assumption | apply Pick.there)) rfl) rfl ?_
      refine RL.val (Wanted.yes rfl rfl rfl rfl) (V.len rfl rfl el53.under rfl) rfl ?_
      refine RL.cmp (Wanted.yes rfl rfl rfl rfl) (V.bin rfl rfl rfl B.geq) rfl (fun h17 => ?_) (fun h17 => ?_)
      · skip
        refine RL.val (Wanted.free rfl) (V.pick_false rfl rfl rfl) rfl ?_
        refine RL.nil ?_
        refine SG.cond_true rfl ?_
        refine SG.seq ?_
        have he : D.errOf k = 5 := if_pos (by omega)
        have hw : D.write k s = D := if_neg (by omega)
        have hwe : D.writeE k s = 5 := (if_pos (by omega)).trans he
        rw [hw, hwe]
        refine SG.region ?_
        refine RL.val (Wanted.free rfl) (V.assign rfl rfl) rfl ?_
        refine RL.nil ?_
        refine SG.retE (Ret.r1 Try.func46 rfl (.tmp rfl)) ?_ ⟨rfl, rfl⟩
        refine RDsk.ent (ad := ad) (c := c) ?_
        repeat (first | exact Ent.refl _ | (apply Ent.cons; (· repeat (first | exact Pick.here | (refine Pick.sl ?_; (· repeat (first | exact List.Mem.head _ | assumption | apply List.Mem.tail))) | apply Pick.there))) | (refine Ent.trans (Ent.drop _ _) ?_))
      · skip
        refine RL.val (Wanted.free rfl) (V.pick_false rfl rfl rfl) rfl ?_
        refine RL.nil ?_
        refine SG.cond_false rfl ?_
        refine SG.skip ?_
        refine SG.seq ?_
        refine SG.seq ?_
        refine SG.region ?_
        refine RL.val (Wanted.free rfl) (V.move rfl rfl) rfl ?_
        refine RL.val (Wanted.free rfl) (V.nilCheck rfl rfl) rfl ?_
        refine RL.val (Wanted.free rfl) (V.fieldAddr rfl rfl fo87_1) rfl ?_
        refine RL.val (Wanted.free rfl) (V.load rfl on4 rfl (by repeat (first | exact Pick.here | assumption | apply Pick.there)) rfl) rfl ?_
        refine RL.nil ?_
        refine SG.cond rfl (fun h23 => ?_) (fun h23 => ?_)
        · skip
          have he : D.errOf k = 10 := by unfold Dk.errOf; rw [if_neg (by omega), if_pos (by assumption)]
          have hw : D.write k s = D := if_neg (by omega)
          have hwe : D.writeE k s = 10 := (if_pos (by omega)).trans he
          rw [hw, hwe]
          refine SG.seq ?_
          refine SG.region ?_
          refine RL.val (Wanted.free rfl) (V.assign rfl rfl) rfl ?_
          refine RL.nil ?_
          refine SG.retE (Ret.r1 Try.func46 rfl (.tmp rfl)) ?_ ⟨rfl, rfl⟩
          refine RDsk.ent (ad := ad) (c := c) ?_
          repeat (first | exact Ent.refl _ | (apply Ent.cons; (· repeat (first | exact Pick.here | (refine Pick.sl ?_; (· repeat (first | exact List.Mem.head _ | assumption | apply List.Mem.tail))) | apply Pick.there))) | (refine Ent.trans (Ent.drop _ _) ?_))
        · skip
          refine SG.skip ?_
          refine SG.seq ?_
          have he0 : D.errOf k = 0 := Dk.errOf_zero.2 ⟨by omega, by omega, by simp_all⟩
          obtain ⟨hk0, hk1, hoff⟩ := Dk.errOf_zero.1 he0
          obtain ⟨kn, rfl⟩ := Int.eq_ofNat_of_zero_le hk0
          have hk := Dk.at_mem hk0 hk1
          rw [Int.toNat_natCast] at hk
          obtain ⟨hl1, hl2, hl3⟩ := hD.all _ (mem_of hk)
          have hw : D.write kn s = (D.add kn s).spend := if_pos ⟨by omega, he0⟩
          have hwe : D.writeE kn s = 0 := (if_pos (by omega)).trans he0
          rw [hw, hwe]
          refine SG.nest (by repeat (first | exact Pick.here | assumption | apply Pick.there)) hk fun ts a1 m1 c1 xs hF => ?_
          refine SG.buf (a := a1) (by repeat (first | exact Pick.here | assumption | apply Pick.there)) fun hm1 _ _ => ?_
          have htl := hF.len
          have hkl := (List.getElem?_eq_some_iff.1 hk).1
          refine SG.drawN 18 17 (Blk b 87 [.slice (some ad) D.S.length c, .bool D.off, vI (rf D.fuse)] :: Buf RTri 56 (some ad) D.S.length c ts :: Each (nown (Rep.slice R8) 32) xs :: L1) wide rfl rfl (by repeat (first | exact Ent.refl _ | (apply Ent.cons; (· repeat (first | exact Pick.here | (refine Pick.sl ?_; (· repeat (first | exact List.Mem.head _ | assumption | apply List.Mem.tail))) | apply Pick.there))) | (refine Ent.trans (Ent.drop _ _) ?_))) ?_
          refine RH.val 0 rfl (by kernel_rfl) (by kernel_rfl) (by kernel_rfl) (by kernel_rfl) (Wanted.free rfl) (V.move rfl rfl) rfl ?_
          refine RH.val 1 rfl (by kernel_rfl) (by kernel_rfl) (by kernel_rfl) (by kernel_rfl) (Wanted.free rfl) (V.nilCheck rfl rfl) rfl ?_
          refine RH.val 2 rfl (by kernel_rfl) (by kernel_rfl) (by kernel_rfl) (by kernel_rfl) (Wanted.free rfl) (V.fieldAddr rfl rfl fo87_0) rfl ?_
          refine RH.val 3 rfl (by kernel_rfl) (by kernel_rfl) (by kernel_rfl) (by kernel_rfl) (Wanted.free rfl) (V.load rfl on53 rfl (by repeat (first | exact Pick.here | assumption | apply Pick.there)) rfl) rfl ?_
          refine RH.val 4 rfl (by kernel_rfl) (by kernel_rfl) (by kernel_rfl) (by kernel_rfl) (Wanted.free rfl) (V.move rfl rfl) rfl ?_
          refine RH.val 5 rfl (by kernel_rfl) (by kernel_rfl) (by kernel_rfl) (by kernel_rfl) (Wanted.free rfl) (V.move rfl rfl) rfl ?_
          refine RH.val 6 rfl (by kernel_rfl) (by kernel_rfl) (by kernel_rfl) (by kernel_rfl) (Wanted.free rfl) (V.nilCheck rfl rfl) rfl ?_
          refine RH.val 7 rfl (by kernel_rfl) (by kernel_rfl) (by kernel_rfl) (by kernel_rfl) (Wanted.free rfl) (V.fieldAddr rfl rfl fo87_0) rfl ?_
          refine RH.val 8 rfl (by kernel_rfl) (by kernel_rfl) (by kernel_rfl) (by kernel_rfl) (Wanted.free rfl) (V.load rfl on53 rfl (by repeat (first | exact Pick.here | assumption | apply Pick.there)) rfl) rfl ?_
          refine RH.val 9 rfl (by kernel_rfl) (by kernel_rfl) (by kernel_rfl) (by kernel_rfl) (Wanted.free rfl) (V.move rfl rfl) rfl ?_
          refine RH.val 10 rfl (by kernel_rfl) (by kernel_rfl) (by kernel_rfl) (by kernel_rfl) (Wanted.free rfl) (V.indexAd (j := kn) rfl el53.slice rfl rfl (by first | rfl | omega) (by omega)) rfl ?_
          refine RH.val 11 rfl (by kernel_rfl) (by kernel_rfl) (by kernel_rfl) (by kernel_rfl) (Wanted.free rfl) (V.loadTri rfl on56 rfl (by repeat (first | exact Pick.here | assumption | apply Pick.there)) hF.at_) rfl ?_
          refine RH.val 12 rfl (by kernel_rfl) (by kernel_rfl) (by kernel_rfl) (by kernel_rfl) (Wanted.free rfl) (V.move rfl rfl) rfl ?_
          refine RH.one (i := 13) (by kernel_rfl) ?_
          refine RHone.eff rfl (Wanted.free rfl) (E.call rfl go33 rfl (few_ok (a := a0) (by repeat (first | exact List.Mem.head _ | assumption | apply List.Mem.tail)) (by omega) (by omega))) rfl ?_
          rintro _ _ ⟨a38, k38, c38, rfl, rfl⟩
          refine ⟨.inr (by repeat (first | exact Ent.refl _ | (apply Ent.cons; (· repeat (first | exact Pick.here | (refine Pick.sl ?_; (· repeat (first | exact List.Mem.head _ | assumption | apply List.Mem.tail))) | apply Pick.there))) | (refine Ent.trans (Ent.drop _ _) ?_))), ?_⟩
          rw [show s.take (Int.toNat 64) = s from List.take_of_length_le (by rw [hl]; decide)]
          refine RH.publish (a := a38) (by repeat (first | exact Pick.here | assumption | apply Pick.there)) ?_
          refine RH.one (i := 14) (by kernel_rfl) ?_
          refine RHone.eff rfl (Wanted.free rfl) (E.lit1 _ rfl el56.slice ze32 rfl (by decide) (by decide) rfl rfl rfl) rfl ?_
          rintro _ _ ⟨b39, rfl, rfl⟩
          refine ⟨.inr (by repeat (first | exact Ent.refl _ | (apply Ent.cons; (· repeat (first | exact Pick.here | (refine Pick.sl ?_; (· repeat (first | exact List.Mem.head _ | assumption | apply List.Mem.tail))) | apply Pick.there))) | (refine Ent.trans (Ent.drop _ _) ?_))), ?_⟩
          refine RH.one (i := 15) (by kernel_rfl) ?_
          refine RHone.eff rfl (Wanted.free rfl) (E.append (T := (Rep.slice R8)) rfl rfl rfl el56 el56.noInt rfl rfl (by repeat (first | exact Pick.here | assumption | apply Pick.there)) (Src.litSl (by repeat (first | exact Pick.here | assumption | apply Pick.there)) (show Sl R8 a38 k38 c38 s ∈ _ from (by repeat (first | exact List.Mem.head _ | assumption | apply List.Mem.tail)))) (by first | omega | (simp; omega)) (by first | omega | (simp; omega))) rfl ?_
          intro _ _ hK40
          try rw [List.nil_append] at hK40
          try rw [Nat.zero_add] at hK40
          obtain ⟨a40, c40, rfl, rfl⟩ := hK40
          refine ⟨.inr (by repeat (first | exact Ent.refl _ | (apply Ent.cons; (· repeat (first | exact Pick.here | (refine Pick.sl ?_; (· repeat (first | exact List.Mem.head _ | assumption | apply List.Mem.tail))) | apply Pick.there))) | (refine Ent.trans (Ent.drop _ _) ?_))), ?_⟩
          refine RH.val 16 rfl (by kernel_rfl) (by kernel_rfl) (by kernel_rfl) (by kernel_rfl) (Wanted.free rfl) (V.indexAd (j := kn) rfl el53.slice rfl rfl (by first | rfl | omega) (by omega)) rfl ?_
          refine RH.one (i := 17) (by kernel_rfl) ?_
          refine RHone.eff rfl (Wanted.free rfl) (E.storeBuf (T := RTri) (j := kn) (y := (a40, m1 + 1, c40)) [.slice a40 (m1 + 1) c40] rfl sz56 rfl rfl rfl (by repeat (first | exact Pick.here | assumption | apply Pick.there)) (by omega) (fun _ _ _ => ⟨rfl, trivial⟩)) rfl ?_
          rintro _ _ rfl
          refine ⟨.inl (by kernel_rfl), ?_⟩
          refine RH.done (by kernel_rfl) ?_
          refine SG.seq ?_
          refine SG.ent (?_ : Ent _ (RDsk b (D.add kn s) :: L1)) ?_
          · refine RDsk.ent (ad := ad) (c := c) ?_
            rw [Dk.add_len]
            refine Ent.cons (by repeat (first | exact Pick.here | assumption | apply Pick.there)) ?_
            refine Ent.trans ?_ (hF.put a40 (m1 + 1) c40 (D.at kn ++ [s]) L1)
            repeat (first | exact Ent.refl _ | (apply Ent.cons; (· repeat (first | exact Pick.here | (refine Pick.sl ?_; (· repeat (first | exact List.Mem.head _ | assumption | apply List.Mem.tail))) | apply Pick.there))) | (refine Ent.trans (Ent.drop _ _) ?_))
          refine SG.region ?_
          refine RL.val (Wanted.free rfl) (V.move rfl rfl) rfl ?_
          refine RL.eff (Wanted.free rfl) (E.call rfl go62 rfl (rSpend_ok (hD.add hk0 hk1 (by omega)) Pick.here hoff)) rfl ?_
          rintro _ _ ⟨rfl, rfl⟩
          refine RL.nil ?_
          refine SG.seq ?_
          refine SG.region ?_
          refine RL.val (Wanted.free rfl) (V.assign rfl rfl) rfl ?_
          refine RL.nil ?_
          refine SG.retE (Ret.r1 Try.func46 rfl (.tmp rfl)) ?_ ⟨rfl, rfl⟩
          repeat (first | exact Ent.refl _ | (apply Ent.cons; (· repeat (first | exact Pick.here | (refine Pick.sl ?_; (· repeat (first | exact List.Mem.head _ | assumption | apply List.Mem.tail))) | apply Pick.there))) | (refine Ent.trans (Ent.drop _ _) ?_))

set_option maxRecDepth 100000 in
theorem rNew_ok {κ : World} {L : List Assn} {n : Nat} (h1 : 1 ≤ n) (h2 : n ≤ 4096) :
    Ctr Try.prog 13 #[vI n] κ L (fun v M => ∃ b, v = .tuple #[ptr b 0, vI 0] ∧ M = RDsk b (fresh n) :: L) := by
  refine Ctr.enter (vs := [vI n]) (m := 31) Try.func13 rfl rfl rfl ?_
  refine SG.seq ?_
  refine SG.region ?_
  refine RL.val (Wanted.free rfl) (V.assign rfl rfl) rfl ?_
  refine RL.val (Wanted.free rfl) (V.assign rfl rfl) rfl ?_
  refine RL.nil ?_
  refine SG.seq ?_
  refine SG.seq ?_
  refine SG.region ?_
  refine RL.val (Wanted.free rfl) (V.move rfl rfl) rfl ?_
  refine RL.cmpF (Wanted.free rfl) (V.bin rfl rfl rfl B.lss) rfl (by omega) ?_
  refine RL.val (Wanted.free rfl) (V.move rfl rfl) rfl ?_
  refine RL.val (Wanted.yes rfl rfl rfl rfl) (V.move rfl rfl) rfl ?_
  refine RL.cmpF (Wanted.yes rfl rfl rfl rfl) (V.bin rfl rfl rfl B.gtr) rfl (by omega) ?_
  refine RL.val (Wanted.free rfl) (V.pick_false rfl rfl rfl) rfl ?_
  refine RL.nil ?_
  refine SG.cond_false rfl ?_
  refine SG.skip ?_
  refine SG.seq ?_
  refine SG.region ?_
  refine RL.val (Wanted.free rfl) (V.buildS [(2, [vI (-1)])] rfl bs87 (by exact ⟨rfl, ⟨_, rfl, rfl⟩, trivial⟩) rfl) rfl ?_
  refine RL.eff (Wanted.free rfl) (E.box _ rfl rfl rfl) rfl ?_
  rintro _ _ ⟨b4, rfl, rfl⟩
  refine RL.val (Wanted.free rfl) (V.assign rfl rfl) rfl ?_
  refine RL.nil ?_
  refine SG.seq ?_
  refine SG.seq ?_
  refine SG.region ?_
  refine RL.val (Wanted.free rfl) (V.assign rfl rfl) rfl ?_
  refine RL.nil ?_
  refine SG.block ?_
  refine SG.ent (Nest.nil (T := Rep.slice R8) (e := 32) (eo := 56)) ?_
  refine SG.weaken (SG.loop2 (fun m al M => ∃ (i : Nat) (a : Option Addr) (c : Nat), i ≤ n ∧ m = n - i ∧ al = [(0, vI n), (4, ptr b4 0), (5, vI i)] ∧ M = Blk b4 87 [.slice a i c, .bool false, vI (-1)] :: Nest (Rep.slice R8) 32 56 a i c (List.replicate i [List.replicate 64 (0 : UInt8)]) :: L) (m0 := _) ⟨0, none, 0, by omega, rfl, rfl, rfl⟩ ?_) ?_ ?_
  rotate_left
  · repeat (first | exact EnvLe.nil _ | refine EnvLe.cons rfl ?_)
  · repeat (first | exact Ent.refl _ | (apply Ent.cons; (· repeat (first | exact Pick.here | (refine Pick.sl ?_; (· repeat (first | exact List.Mem.head _ | assumption | apply List.Mem.tail))) | apply Pick.there))) | (refine Ent.trans (Ent.drop _ _) ?_))
  rintro _ _ _ ⟨i, a, c, hi, rfl, rfl, rfl⟩ ih0
  refine SG.seq ?_
  refine SG.seq ?_
  refine SG.region ?_
  refine RL.val (Wanted.free rfl) (V.move rfl rfl) rfl ?_
  refine RL.val (Wanted.free rfl) (V.move rfl rfl) rfl ?_
  refine RL.cmp (Wanted.free rfl) (V.bin rfl rfl rfl B.lss) rfl (fun h12 => ?_) (fun h12 => ?_)
  · skip
    refine RL.nil ?_
    refine SG.cond_true rfl ?_
    refine SG.skip ?_
    refine SG.seq ?_
    refine SG.block ?_
    refine SG.openNest (by repeat (first | exact Pick.here | assumption | apply Pick.there)) fun ts xs hts hxs => ?_
    refine SG.buf (T := RTri) (by repeat (first | exact Pick.here | assumption | apply Pick.there)) fun hb _ _ => ?_
    refine SG.drawN 12 11 (Blk b4 87 [.slice a i c, .bool false, vI (-1)] :: Each (nown (Rep.slice R8) 32) xs :: L) wide rfl rfl (by repeat (first | exact Ent.refl _ | (apply Ent.cons; (· repeat (first | exact Pick.here | (refine Pick.sl ?_; (· repeat (first | exact List.Mem.head _ | assumption | apply List.Mem.tail))) | apply Pick.there))) | (refine Ent.trans (Ent.drop _ _) ?_))) ?_
    refine RH.val 0 rfl (by kernel_rfl) (by kernel_rfl) (by kernel_rfl) (by kernel_rfl) (Wanted.free rfl) (V.move rfl rfl) rfl ?_
    refine RH.val 1 rfl (by kernel_rfl) (by kernel_rfl) (by kernel_rfl) (by kernel_rfl) (Wanted.free rfl) (V.move rfl rfl) rfl ?_
    refine RH.val 2 rfl (by kernel_rfl) (by kernel_rfl) (by kernel_rfl) (by kernel_rfl) (Wanted.free rfl) (V.nilCheck rfl rfl) rfl ?_
    refine RH.val 3 rfl (by kernel_rfl) (by kernel_rfl) (by kernel_rfl) (by kernel_rfl) (Wanted.free rfl) (V.fieldAddr rfl rfl fo87_0) rfl ?_
    refine RH.val 4 rfl (by kernel_rfl) (by kernel_rfl) (by kernel_rfl) (by kernel_rfl) (Wanted.free rfl) (V.load rfl on53 rfl (by repeat (first | exact Pick.here | assumption | apply Pick.there)) rfl) rfl ?_
    refine RH.one (i := 5) (by kernel_rfl) ?_
    refine RHone.eff rfl (Wanted.free rfl) (E.make (T := R8) (m := 64) (z0 := .int .u8 0) (x0 := 0) rfl el32 ze5 rfl rfl rfl (by decide) (by decide) (fun _ => ⟨rfl, trivial⟩)) rfl ?_
    rintro _ _ ⟨b24, rfl, rfl⟩
    refine ⟨.inr (by repeat (first | exact Ent.refl _ | (apply Ent.cons; (· repeat (first | exact Pick.here | (refine Pick.sl ?_; (· repeat (first | exact List.Mem.head _ | assumption | apply List.Mem.tail))) | apply Pick.there))) | (refine Ent.trans (Ent.drop _ _) ?_))), ?_⟩
    refine RH.publish (a := some ⟨b24, 0, none⟩) (by repeat (first | exact Pick.here | assumption | apply Pick.there)) ?_
    refine RH.one (i := 6) (by kernel_rfl) ?_
    refine RHone.eff rfl (Wanted.free rfl) (E.lit1 _ rfl el56.slice ze32 rfl (by decide) (by decide) rfl rfl rfl) rfl ?_
    rintro _ _ ⟨b25, rfl, rfl⟩
    refine ⟨.inr (by repeat (first | exact Ent.refl _ | (apply Ent.cons; (· repeat (first | exact Pick.here | (refine Pick.sl ?_; (· repeat (first | exact List.Mem.head _ | assumption | apply List.Mem.tail))) | apply Pick.there))) | (refine Ent.trans (Ent.drop _ _) ?_))), ?_⟩
    refine RH.one (i := 7) (by kernel_rfl) ?_
    refine RHone.eff rfl (Wanted.free rfl) (E.lit1 _ rfl el53.slice ze56 rfl (by decide) (by decide) rfl rfl rfl) rfl ?_
    rintro _ _ ⟨b26, rfl, rfl⟩
    refine ⟨.inr (by repeat (first | exact Ent.refl _ | (apply Ent.cons; (· repeat (first | exact Pick.here | (refine Pick.sl ?_; (· repeat (first | exact List.Mem.head _ | assumption | apply List.Mem.tail))) | apply Pick.there))) | (refine Ent.trans (Ent.drop _ _) ?_))), ?_⟩
    refine RH.one (i := 8) (by kernel_rfl) ?_
    refine RHone.eff rfl (Wanted.free rfl) (E.append (T := RTri) rfl rfl rfl el53 el53.noInt rfl rfl (by repeat (first | exact Pick.here | assumption | apply Pick.there)) (Src.lit (x := (some ⟨b25, 0, none⟩, 1, 1)) (E := 56) (b := b26) (by repeat (first | exact Pick.here | assumption | apply Pick.there)) trivial) (by first | omega | (simp; omega)) (by first | omega | (simp; omega))) rfl ?_
    intro _ _ hK21
    try rw [List.nil_append] at hK21
    try rw [Nat.zero_add] at hK21
    obtain ⟨a27, c27, rfl, rfl⟩ := hK21
    refine ⟨.inr (by repeat (first | exact Ent.refl _ | (apply Ent.cons; (· repeat (first | exact Pick.here | (refine Pick.sl ?_; (· repeat (first | exact List.Mem.head _ | assumption | apply List.Mem.tail))) | apply Pick.there))) | (refine Ent.trans (Ent.drop _ _) ?_))), ?_⟩
    refine RH.pure 9 rfl (by kernel_rfl) (by kernel_rfl) (by kernel_rfl) (by kernel_rfl) (Wanted.free rfl) (V.nilCheck rfl rfl) rfl ?_
    refine RH.val 10 rfl (by kernel_rfl) (by kernel_rfl) (by kernel_rfl) (by kernel_rfl) (Wanted.free rfl) (V.fieldAddr rfl rfl fo87_0) rfl ?_
    refine RH.one (i := 11) (by kernel_rfl) ?_
    refine RHone.eff rfl (Wanted.free rfl) (E.store1 rfl rfl rfl rfl rfl sz53 (by repeat (first | exact Pick.here | assumption | apply Pick.there)) rfl) rfl ?_
    rintro _ _ rfl
    refine ⟨.inl (by kernel_rfl), ?_⟩
    refine RH.done (by kernel_rfl) ?_
    refine SG.inBlock ?_
    refine SG.region ?_
    refine RL.val (Wanted.free rfl) (V.move rfl rfl) rfl ?_
    refine RL.val (Wanted.free rfl) (V.bin rfl rfl rfl (B.addI (by omega) (by omega))) rfl ?_
    refine RL.val (Wanted.free rfl) (V.assign rfl rfl) rfl ?_
    refine RL.nil ?_
    refine SG.ent (Buf.lit1 (T := R8) (b := b25) (y := List.replicate 64 (0 : UInt8)) (a := some ⟨b24, 0, none⟩) (m := 64) (c := 64) (by repeat (first | exact Pick.here | assumption | apply Pick.there)) (by repeat (first | exact List.Mem.head _ | assumption | apply List.Mem.tail))) ?_
    refine SG.weaken (ih0 _ _ _ ?_ ⟨i + 1, a27, c27, by omega, rfl, rfl, rfl⟩) ?_ ?_
    · omega
    · repeat (first | exact EnvLe.nil _ | refine EnvLe.cons rfl ?_)
    · rw [show (List.replicate (i + 1) [List.replicate 64 (0 : UInt8)] : List (List (List UInt8))) = List.replicate i [List.replicate 64 (0 : UInt8)] ++ [[List.replicate 64 (0 : UInt8)]] from List.replicate_succ']
      refine Ent.cons (by repeat (first | exact Pick.here | assumption | apply Pick.there)) ?_
      refine Ent.trans ?_ (Nest.snoc (a1 := some ⟨b25, 0, none⟩) (m1 := 1) (c1 := 1) (L := L) hts hxs)
      repeat (first | exact Ent.refl _ | (apply Ent.cons; (· repeat (first | exact Pick.here | (refine Pick.sl ?_; (· repeat (first | exact List.Mem.head _ | assumption | apply List.Mem.tail))) | apply Pick.there))) | (refine Ent.trans (Ent.drop _ _) ?_))
  · skip
    refine RL.nil ?_
    refine SG.cond_false rfl ?_
    refine SG.exit rfl ?_
    refine SG.seq ?_
    refine SG.region ?_
    refine RL.val (Wanted.free rfl) (V.move rfl rfl) rfl ?_
    refine RL.val (Wanted.free rfl) (V.assign rfl rfl) rfl ?_
    refine RL.val (Wanted.free rfl) (V.assign rfl rfl) rfl ?_
    refine RL.nil ?_
    obtain rfl : i = n := by omega
    have e1 : (fresh i).S.length = i := by simp [fresh]
    refine SG.fact (fun w hs => hs.nestLen (by repeat (first | exact Pick.here | assumption | apply Pick.there))) fun hnl => ?_
    refine SG.openNest (by repeat (first | exact Pick.here | assumption | apply Pick.there)) fun ts xs hts hxs => ?_
    refine SG.bufAd (T := RTri) (a := a) (by repeat (first | exact Pick.here | assumption | apply Pick.there)) (by omega) fun ad had => ?_
    subst had
    refine SG.retE (Ret.r2 Try.func13 rfl (.tmp rfl) (.tmp rfl)) ?_ ⟨_, rfl, rfl⟩
    refine RDsk.ent (ad := ad) (c := c) ?_
    rw [e1]
    refine Ent.cons (by repeat (first | exact Pick.here | assumption | apply Pick.there)) ?_
    subst hts
    refine Ent.trans ?_ (Nest.close (L := L) hxs)
    repeat (first | exact Ent.refl _ | (apply Ent.cons; (· repeat (first | exact Pick.here | (refine Pick.sl ?_; (· repeat (first | exact List.Mem.head _ | assumption | apply List.Mem.tail))) | apply Pick.there))) | (refine Ent.trans (Ent.drop _ _) ?_))

set_option maxRecDepth 100000 in
theorem rFlush_ok {κ : World} {L : List Assn} {L1 : List Assn} {b : Nat} {D : Dk} {m0 : Nat} (hD : D.ok m0) (hp : Pick (RDsk b D) L L1) (hm0 : m0 ≤ 1000000) :
    Ctr Try.prog 48 #[ptr b 0] κ L (fun v M => v = vI D.flushE ∧ M = RDsk b D.flush :: L1) := by
  refine Ctr.enter (vs := [ptr b 0]) (m := 38) Try.func48 rfl rfl rfl ?_
  refine SG.openR hp fun ad c => ?_
  refine SG.seq ?_
  refine SG.region ?_
  refine RL.val (Wanted.free rfl) (V.assign rfl rfl) rfl ?_
  refine RL.nil ?_
  refine SG.seq ?_
  refine SG.seq ?_
  refine SG.region ?_
  refine RL.val (Wanted.free rfl) (V.move rfl rfl) rfl ?_
  refine RL.val (Wanted.free rfl) (V.nilCheck rfl rfl) rfl ?_
  refine RL.val (Wanted.free rfl) (V.fieldAddr rfl rfl fo87_1) rfl ?_
  refine RL.val (Wanted.free rfl) (V.load rfl on4 rfl (by repeat (first | exact Pick.here | assumption | apply Pick.there)) rfl) rfl ?_
  refine RL.nil ?_
  refine SG.cond rfl (fun h6 => ?_) (fun h6 => ?_)
  · skip
    have hw : D.flush = D := if_pos (by assumption)
    have he : D.flushE = 10 := if_pos (by assumption)
    rw [hw, he]
    refine SG.seq ?_
    refine SG.region ?_
    refine RL.val (Wanted.free rfl) (V.assign rfl rfl) rfl ?_
    refine RL.nil ?_
    refine SG.retE (Ret.r1 Try.func48 rfl (.tmp rfl)) ?_ ⟨rfl, rfl⟩
    refine RDsk.ent (ad := ad) (c := c) ?_
    repeat (first | exact Ent.refl _ | (apply Ent.cons; (· repeat (first | exact Pick.here | (refine Pick.sl ?_; (· repeat (first | exact List.Mem.head _ | assumption | apply List.Mem.tail))) | apply Pick.there))) | (refine Ent.trans (Ent.drop _ _) ?_))
  · skip
    have hoff : D.off = false := by simp_all
    have hw : D.flush = D.flushed.spend := if_neg (by simp_all)
    have he : D.flushE = 0 := if_neg (by simp_all)
    rw [hw, he]
    refine SG.skip ?_
    refine SG.seq ?_
    refine SG.seq ?_
    refine SG.region ?_
    refine RL.val (Wanted.free rfl) (V.assign rfl rfl) rfl ?_
    refine RL.nil ?_
    refine SG.block ?_
    refine SG.weaken (SG.loop2 (fun m al M => ∃ i : Nat, i ≤ D.S.length ∧ m = D.S.length - i ∧ al = [(0, ptr b 0), (3, vI i)] ∧ M = Blk b 87 [.slice (some ad) D.S.length c, .bool D.off, vI (rf D.fuse)] :: Nest (Rep.slice R8) 32 56 (some ad) D.S.length c (upTo (fun _ l => [lst l]) i D.S) :: L1) (m0 := _) ⟨0, by omega, rfl, rfl, rfl⟩ ?_) ?_ ?_
    rotate_left
    · repeat (first | exact EnvLe.nil _ | refine EnvLe.cons rfl ?_)
    · rw [upTo_zero]
      repeat (first | exact Ent.refl _ | (apply Ent.cons; (· repeat (first | exact Pick.here | (refine Pick.sl ?_; (· repeat (first | exact List.Mem.head _ | assumption | apply List.Mem.tail))) | apply Pick.there))) | (refine Ent.trans (Ent.drop _ _) ?_))
    rintro _ _ _ ⟨i, hi, rfl, rfl, rfl⟩ ih0
    have hlen := hD.len
    refine SG.seq ?_
    refine SG.seq ?_
    refine SG.region ?_
    refine RL.val (Wanted.free rfl) (V.move rfl rfl) rfl ?_
    refine RL.val (Wanted.free rfl) (V.move rfl rfl) rfl ?_
    refine RL.val (Wanted.free rfl) (V.nilCheck rfl rfl) rfl ?_
    refine RL.val (Wanted.free rfl) (V.fieldAddr rfl rfl fo87_0) rfl ?_
    refine RL.val (Wanted.free rfl) (V.load rfl on53 rfl (by repeat (first | exact Pick.here | assumption | apply Pick.there)) rfl) rfl ?_
    refine RL.val (Wanted.free rfl) (V.len rfl rfl el53.under rfl) rfl ?_
    refine RL.cmp (Wanted.free rfl) (V.bin rfl rfl rfl B.lss) rfl (fun h15 => ?_) (fun h15 => ?_)
    · skip
      refine RL.nil ?_
      refine SG.cond_true rfl ?_
      refine SG.skip ?_
      refine SG.seq ?_
      refine SG.block ?_
      refine SG.seq ?_
      have hin : i < D.S.length := by omega
      have hk : D.S[i]? = some D.S[i] := List.getElem?_eq_getElem hin
      have hst := upTo_step (g := (fun _ l => [lst l])) hk
      have hsame := upTo_same (g := (fun _ l => [lst l])) hk
      have hcur : (upTo (fun _ l => [lst l]) i D.S)[i]? = some D.S[i] := by rw [upTo_get hk, if_neg (by omega)]
      obtain ⟨hl1, hl2, hl3⟩ := hD.all _ (mem_of hk)
      generalize D.S[i] = l at *
      refine SG.nest (by repeat (first | exact Pick.here | assumption | apply Pick.there)) hcur fun ts a1 m1 c1 xs hF => ?_
      refine SG.buf (a := a1) (by repeat (first | exact Pick.here | assumption | apply Pick.there)) fun hm1 _ _ => ?_
      have htl := hF.len
      rw [upTo_len] at htl
      refine SG.region ?_
      refine RL.val (Wanted.free rfl) (V.move rfl rfl) rfl ?_
      refine RL.val (Wanted.free rfl) (V.nilCheck rfl rfl) rfl ?_
      refine RL.val (Wanted.free rfl) (V.fieldAddr rfl rfl fo87_0) rfl ?_
      refine RL.val (Wanted.free rfl) (V.load rfl on53 rfl (by repeat (first | exact Pick.here | assumption | apply Pick.there)) rfl) rfl ?_
      refine RL.val (Wanted.free rfl) (V.move rfl rfl) rfl ?_
      refine RL.val (Wanted.free rfl) (V.indexAd (j := i) rfl el53.slice rfl rfl (by first | rfl | omega) (by omega)) rfl ?_
      refine RL.val (Wanted.free rfl) (V.loadTri rfl on56 rfl (by repeat (first | exact Pick.here | assumption | apply Pick.there)) hF.at_) rfl ?_
      refine RL.val (Wanted.free rfl) (V.len rfl rfl el56.under rfl) rfl ?_
      refine RL.cmp (Wanted.free rfl) (V.bin rfl rfl rfl B.gtr) rfl (fun h24 => ?_) (fun h24 => ?_)
      · skip
        refine RL.nil ?_
        refine SG.cond_true rfl ?_
        refine SG.drawL 11 10 wide rfl rfl ?_
        refine RH.val 0 rfl (by kernel_rfl) (by kernel_rfl) (by kernel_rfl) (by kernel_rfl) (Wanted.free rfl) (V.move rfl rfl) rfl ?_
        refine RH.val 1 rfl (by kernel_rfl) (by kernel_rfl) (by kernel_rfl) (by kernel_rfl) (Wanted.free rfl) (V.nilCheck rfl rfl) rfl ?_
        refine RH.val 2 rfl (by kernel_rfl) (by kernel_rfl) (by kernel_rfl) (by kernel_rfl) (Wanted.free rfl) (V.fieldAddr rfl rfl fo87_0) rfl ?_
        refine RH.val 3 rfl (by kernel_rfl) (by kernel_rfl) (by kernel_rfl) (by kernel_rfl) (Wanted.free rfl) (V.load rfl on53 rfl (by repeat (first | exact Pick.here | assumption | apply Pick.there)) rfl) rfl ?_
        refine RH.val 4 rfl (by kernel_rfl) (by kernel_rfl) (by kernel_rfl) (by kernel_rfl) (Wanted.free rfl) (V.move rfl rfl) rfl ?_
        refine RH.val 5 rfl (by kernel_rfl) (by kernel_rfl) (by kernel_rfl) (by kernel_rfl) (Wanted.free rfl) (V.move rfl rfl) rfl ?_
        refine RH.val 6 rfl (by kernel_rfl) (by kernel_rfl) (by kernel_rfl) (by kernel_rfl) (Wanted.free rfl) (V.move rfl rfl) rfl ?_
        refine RH.one (i := 7) (by kernel_rfl) ?_
        refine RHone.eff rfl (Wanted.free rfl) (E.call rfl go63 rfl (rLast_ok (kn := i) (ts := ts) (by repeat (first | exact Pick.here | assumption | apply Pick.there)) (by repeat (first | exact Pick.here | assumption | apply Pick.there)) hF.at_ (by repeat (first | exact Pick.here | assumption | apply Pick.there)) (by assumption))) rfl ?_
        rintro _ _ ⟨a33, m33, c33, rfl, rfl⟩
        refine ⟨.inr (by repeat (first | exact Ent.refl _ | (apply Ent.cons; (· repeat (first | exact Pick.here | (refine Pick.sl ?_; (· repeat (first | exact List.Mem.head _ | assumption | apply List.Mem.tail))) | apply Pick.there))) | (refine Ent.trans (Ent.drop _ _) ?_))), ?_⟩
        refine RH.one (i := 8) (by kernel_rfl) ?_
        refine RHone.eff rfl (Wanted.free rfl) (E.lit1 _ rfl el56.slice ze32 rfl (by decide) (by decide) rfl rfl rfl) rfl ?_
        rintro _ _ ⟨b34, rfl, rfl⟩
        refine ⟨.inr (by repeat (first | exact Ent.refl _ | (apply Ent.cons; (· repeat (first | exact Pick.here | (refine Pick.sl ?_; (· repeat (first | exact List.Mem.head _ | assumption | apply List.Mem.tail))) | apply Pick.there))) | (refine Ent.trans (Ent.drop _ _) ?_))), ?_⟩
        refine RH.val 9 rfl (by kernel_rfl) (by kernel_rfl) (by kernel_rfl) (by kernel_rfl) (Wanted.free rfl) (V.indexAd (j := i) rfl el53.slice rfl rfl (by first | rfl | omega) (by omega)) rfl ?_
        refine RH.one (i := 10) (by kernel_rfl) ?_
        refine RHone.eff rfl (Wanted.free rfl) (E.storeBuf (T := RTri) (j := i) (y := (some ⟨b34, 0, none⟩, 1, 1)) [.slice (some ⟨b34, 0, none⟩) 1 1] rfl sz56 rfl rfl rfl (by repeat (first | exact Pick.here | assumption | apply Pick.there)) (by omega) (fun _ _ _ => ⟨rfl, trivial⟩)) rfl ?_
        rintro _ _ rfl
        refine ⟨.inl (by kernel_rfl), ?_⟩
        refine RH.done (by kernel_rfl) ?_
        refine SG.inBlock ?_
        refine SG.region ?_
        refine RL.val (Wanted.free rfl) (V.move rfl rfl) rfl ?_
        refine RL.val (Wanted.free rfl) (V.bin rfl rfl rfl (B.addI (by omega) (by omega))) rfl ?_
        refine RL.val (Wanted.free rfl) (V.assign rfl rfl) rfl ?_
        refine RL.nil ?_
        refine SG.ent (Buf.lit1 (T := R8) (b := b34) (y := lst l) (a := a33) (m := m33) (c := c33) (by repeat (first | exact Pick.here | assumption | apply Pick.there)) (by repeat (first | exact List.Mem.head _ | assumption | apply List.Mem.tail))) ?_
        refine SG.weaken (ih0 _ _ _ ?_ ⟨i + 1, by omega, rfl, rfl, rfl⟩) ?_ ?_
        · omega
        · repeat (first | exact EnvLe.nil _ | refine EnvLe.cons rfl ?_)
        · rw [hst]
          refine Ent.cons (by repeat (first | exact Pick.here | assumption | apply Pick.there)) ?_
          refine Ent.trans ?_ (hF.put (some ⟨b34, 0, none⟩) 1 1 [lst l] L1)
          repeat (first | exact Ent.refl _ | (apply Ent.cons; (· repeat (first | exact Pick.here | (refine Pick.sl ?_; (· repeat (first | exact List.Mem.head _ | assumption | apply List.Mem.tail))) | apply Pick.there))) | (refine Ent.trans (Ent.drop _ _) ?_))
      · skip
        refine RL.nil ?_
        refine SG.cond_false rfl ?_
        refine SG.skip ?_
        refine SG.inBlock ?_
        refine SG.region ?_
        refine RL.val (Wanted.free rfl) (V.move rfl rfl) rfl ?_
        refine RL.val (Wanted.free rfl) (V.bin rfl rfl rfl (B.addI (by omega) (by omega))) rfl ?_
        refine RL.val (Wanted.free rfl) (V.assign rfl rfl) rfl ?_
        refine RL.nil ?_
        refine SG.weaken (ih0 _ _ _ ?_ ⟨i + 1, by omega, rfl, rfl, rfl⟩) ?_ ?_
        · omega
        · repeat (first | exact EnvLe.nil _ | refine EnvLe.cons rfl ?_)
        · rw [hsame (by rw [hd_tail hl1, show l.tail = [] from List.eq_nil_of_length_eq_zero (by rw [List.length_tail]; omega)]; rfl)]
          refine Ent.cons (by repeat (first | exact Pick.here | assumption | apply Pick.there)) ?_
          refine Ent.trans ?_ (hF.back _)
          repeat (first | exact Ent.refl _ | (apply Ent.cons; (· repeat (first | exact Pick.here | (refine Pick.sl ?_; (· repeat (first | exact List.Mem.head _ | assumption | apply List.Mem.tail))) | apply Pick.there))) | (refine Ent.trans (Ent.drop _ _) ?_))
    · skip
      refine RL.nil ?_
      refine SG.cond_false rfl ?_
      refine SG.exit rfl ?_
      refine SG.seq ?_
      obtain rfl : i = D.S.length := by omega
      rw [upTo_all (Nat.le_refl _), mapIdx_map]
      have e1 : D.flushed.S.length = D.S.length := by simp [Dk.flushed]
      refine SG.ent (?_ : Ent _ (RDsk b D.flushed :: L1)) ?_
      · refine RDsk.ent (ad := ad) (c := c) ?_
        rw [e1]
        repeat (first | exact Ent.refl _ | (apply Ent.cons; (· repeat (first | exact Pick.here | (refine Pick.sl ?_; (· repeat (first | exact List.Mem.head _ | assumption | apply List.Mem.tail))) | apply Pick.there))) | (refine Ent.trans (Ent.drop _ _) ?_))
      refine SG.region ?_
      refine RL.val (Wanted.free rfl) (V.move rfl rfl) rfl ?_
      refine RL.eff (Wanted.free rfl) (E.call rfl go62 rfl (rSpend_ok hD.flushed Pick.here hoff)) rfl ?_
      rintro _ _ ⟨rfl, rfl⟩
      refine RL.nil ?_
      refine SG.seq ?_
      refine SG.region ?_
      refine RL.val (Wanted.free rfl) (V.assign rfl rfl) rfl ?_
      refine RL.nil ?_
      refine SG.retE (Ret.r1 Try.func48 rfl (.tmp rfl)) ?_ ⟨rfl, rfl⟩
      repeat (first | exact Ent.refl _ | (apply Ent.cons; (· repeat (first | exact Pick.here | (refine Pick.sl ?_; (· repeat (first | exact List.Mem.head _ | assumption | apply List.Mem.tail))) | apply Pick.there))) | (refine Ent.trans (Ent.drop _ _) ?_))

set_option maxRecDepth 100000 in
theorem rClone_ok {κ : World} {L : List Assn} {L1 : List Assn} {b : Nat} {D : Dk} {m0 : Nat} (hD : D.ok m0) (hp : Pick (RDsk b D) L L1) (hm0 : m0 ≤ 1000000) :
    Ctr Try.prog 51 #[ptr b 0] κ L (fun v M => ∃ b2, v = ptr b2 0 ∧ M = RDsk b2 D :: RDsk b D :: L1) := by
  refine Ctr.enter (vs := [ptr b 0]) (m := 44) Try.func51 rfl rfl rfl ?_
  refine SG.openR hp fun ad c => ?_
  have hlen := hD.len
  refine SG.seq ?_
  refine SG.region ?_
  refine RL.val (Wanted.free rfl) (V.assign rfl rfl) rfl ?_
  refine RL.nil ?_
  refine SG.seq ?_
  refine SG.drawL 11 11 wide rfl rfl ?_
  refine RH.val 0 rfl (by kernel_rfl) (by kernel_rfl) (by kernel_rfl) (by kernel_rfl) (Wanted.free rfl) (V.move rfl rfl) rfl ?_
  refine RH.val 1 rfl (by kernel_rfl) (by kernel_rfl) (by kernel_rfl) (by kernel_rfl) (Wanted.free rfl) (V.nilCheck rfl rfl) rfl ?_
  refine RH.val 2 rfl (by kernel_rfl) (by kernel_rfl) (by kernel_rfl) (by kernel_rfl) (Wanted.free rfl) (V.fieldAddr rfl rfl fo87_1) rfl ?_
  refine RH.val 3 rfl (by kernel_rfl) (by kernel_rfl) (by kernel_rfl) (by kernel_rfl) (Wanted.free rfl) (V.load rfl on4 rfl (by repeat (first | exact Pick.here | assumption | apply Pick.there)) rfl) rfl ?_
  refine RH.val 4 rfl (by kernel_rfl) (by kernel_rfl) (by kernel_rfl) (by kernel_rfl) (Wanted.free rfl) (V.move rfl rfl) rfl ?_
  refine RH.val 5 rfl (by kernel_rfl) (by kernel_rfl) (by kernel_rfl) (by kernel_rfl) (Wanted.free rfl) (V.nilCheck rfl rfl) rfl ?_
  refine RH.val 6 rfl (by kernel_rfl) (by kernel_rfl) (by kernel_rfl) (by kernel_rfl) (Wanted.free rfl) (V.fieldAddr rfl rfl fo87_2) rfl ?_
  refine RH.val 7 rfl (by kernel_rfl) (by kernel_rfl) (by kernel_rfl) (by kernel_rfl) (Wanted.free rfl) (V.load rfl on3 rfl (by repeat (first | exact Pick.here | assumption | apply Pick.there)) rfl) rfl ?_
  refine RH.val 8 rfl (by kernel_rfl) (by kernel_rfl) (by kernel_rfl) (by kernel_rfl) (Wanted.free rfl) (V.buildS [(1, [.bool D.off]), (2, [vI (rf D.fuse)])] rfl bs87 (by exact ⟨rfl, ⟨_, rfl, rfl⟩, rfl, ⟨_, rfl, rfl⟩, trivial⟩) rfl) rfl ?_
  refine RH.one (i := 9) (by kernel_rfl) ?_
  refine RHone.eff rfl (Wanted.free rfl) (E.box _ rfl rfl rfl) rfl ?_
  rintro _ _ ⟨b3, rfl, rfl⟩
  refine ⟨.inr (by repeat (first | exact Ent.refl _ | (apply Ent.cons; (· repeat (first | exact Pick.here | (refine Pick.sl ?_; (· repeat (first | exact List.Mem.head _ | assumption | apply List.Mem.tail))) | apply Pick.there))) | (refine Ent.trans (Ent.drop _ _) ?_))), ?_⟩
  refine RH.val 10 rfl (by kernel_rfl) (by kernel_rfl) (by kernel_rfl) (by kernel_rfl) (Wanted.free rfl) (V.assign rfl rfl) rfl ?_
  refine RH.done (by kernel_rfl) ?_
  refine SG.seq ?_
  refine SG.seq ?_
  refine SG.region ?_
  refine RL.val (Wanted.free rfl) (V.assign rfl rfl) rfl ?_
  refine RL.nil ?_
  refine SG.block ?_
  refine SG.ent (Nest.nil (T := Rep.slice R8) (e := 32) (eo := 56)) ?_
  refine SG.weaken (SG.loop2 (fun m al M => ∃ (i : Nat) (a : Option Addr) (c2 : Nat), i ≤ D.S.length ∧ m = D.S.length - i ∧ al = [(0, ptr b 0), (3, ptr b3 0), (4, vI i)] ∧ M = Blk b3 87 [.slice a i c2, .bool D.off, vI (rf D.fuse)] :: Nest (Rep.slice R8) 32 56 a i c2 (D.S.take i) :: Blk b 87 [.slice (some ad) D.S.length c, .bool D.off, vI (rf D.fuse)] :: Nest (Rep.slice R8) 32 56 (some ad) D.S.length c D.S :: L1) (m0 := _) ⟨0, none, 0, by omega, rfl, rfl, rfl⟩ ?_) ?_ ?_
  rotate_left
  · repeat (first | exact EnvLe.nil _ | refine EnvLe.cons rfl ?_)
  · repeat (first | exact Ent.refl _ | (apply Ent.cons; (· repeat (first | exact Pick.here | (refine Pick.sl ?_; (· repeat (first | exact List.Mem.head _ | assumption | apply List.Mem.tail))) | apply Pick.there))) | (refine Ent.trans (Ent.drop _ _) ?_))
  rintro _ _ _ ⟨i, a, c2, hi, rfl, rfl, rfl⟩ ih0
  refine SG.seq ?_
  refine SG.seq ?_
  refine SG.region ?_
  refine RL.val (Wanted.free rfl) (V.move rfl rfl) rfl ?_
  refine RL.val (Wanted.free rfl) (V.move rfl rfl) rfl ?_
  refine RL.val (Wanted.free rfl) (V.nilCheck rfl rfl) rfl ?_
  refine RL.val (Wanted.free rfl) (V.fieldAddr rfl rfl fo87_0) rfl ?_
  refine RL.val (Wanted.free rfl) (V.load rfl on53 rfl (by repeat (first | exact Pick.here | assumption | apply Pick.there)) rfl) rfl ?_
  refine RL.val (Wanted.free rfl) (V.len rfl rfl el53.under rfl) rfl ?_
  refine RL.cmp (Wanted.free rfl) (V.bin rfl rfl rfl B.lss) rfl (fun h20 => ?_) (fun h20 => ?_)
  · skip
    refine RL.nil ?_
    refine SG.cond_true rfl ?_
    refine SG.skip ?_
    refine SG.seq ?_
    refine SG.block ?_
    refine SG.seq ?_
    refine SG.region ?_
    refine RL.val (Wanted.free rfl) (V.assign rfl rfl) rfl ?_
    refine RL.nil ?_
    have hin : i < D.S.length := by omega
    have hk : D.S[i]? = some D.S[i] := List.getElem?_eq_getElem hin
    have htk : D.S.take (i + 1) = D.S.take i ++ [D.S[i]] := by rw [List.take_add_one, hk]; rfl
    obtain ⟨hl1, hl2, hl3⟩ := hD.all _ (mem_of hk)
    generalize D.S[i] = l at *
    refine SG.openNest (a := a) (by repeat (first | exact Pick.here | assumption | apply Pick.there)) fun ts2 xs2 hts hxs => ?_
    refine SG.buf (T := RTri) (a := a) (by repeat (first | exact Pick.here | assumption | apply Pick.there)) fun hb _ _ => ?_
    refine SG.nest (a := some ad) (by repeat (first | exact Pick.here | assumption | apply Pick.there)) hk fun ts a1 m1 c1 xs hF => ?_
    refine SG.buf (a := a1) (by repeat (first | exact Pick.here | assumption | apply Pick.there)) fun hm1 _ _ => ?_
    refine SG.ent (Buf.nil (T := Rep.slice R8) (e := 32)) ?_
    refine SG.drawN 19 18 (Buf (Rep.slice R8) 32 a1 m1 c1 l :: Buf RTri 56 (some ad) D.S.length c ts :: Blk b3 87 [.slice a i c2, .bool D.off, vI (rf D.fuse)] :: Blk b 87 [.slice (some ad) D.S.length c, .bool D.off, vI (rf D.fuse)] :: L1) wide rfl rfl (by repeat (first | exact Ent.refl _ | (apply Ent.cons; (· repeat (first | exact Pick.here | (refine Pick.sl ?_; (· repeat (first | exact List.Mem.head _ | assumption | apply List.Mem.tail))) | apply Pick.there))) | (refine Ent.trans (Ent.drop _ _) ?_))) ?_
    refine RH.val 0 rfl (by kernel_rfl) (by kernel_rfl) (by kernel_rfl) (by kernel_rfl) (Wanted.free rfl) (V.move rfl rfl) rfl ?_
    refine RH.val 1 rfl (by kernel_rfl) (by kernel_rfl) (by kernel_rfl) (by kernel_rfl) (Wanted.free rfl) (V.move rfl rfl) rfl ?_
    refine RH.val 2 rfl (by kernel_rfl) (by kernel_rfl) (by kernel_rfl) (by kernel_rfl) (Wanted.free rfl) (V.nilCheck rfl rfl) rfl ?_
    refine RH.val 3 rfl (by kernel_rfl) (by kernel_rfl) (by kernel_rfl) (by kernel_rfl) (Wanted.free rfl) (V.fieldAddr rfl rfl fo87_0) rfl ?_
    refine RH.val 4 rfl (by kernel_rfl) (by kernel_rfl) (by kernel_rfl) (by kernel_rfl) (Wanted.free rfl) (V.load rfl on53 rfl (by repeat (first | exact Pick.here | assumption | apply Pick.there)) rfl) rfl ?_
    refine RH.val 5 rfl (by kernel_rfl) (by kernel_rfl) (by kernel_rfl) (by kernel_rfl) (Wanted.free rfl) (V.move rfl rfl) rfl ?_
    refine RH.val 6 rfl (by kernel_rfl) (by kernel_rfl) (by kernel_rfl) (by kernel_rfl) (Wanted.free rfl) (V.move rfl rfl) rfl ?_
    refine RH.val 7 rfl (by kernel_rfl) (by kernel_rfl) (by kernel_rfl) (by kernel_rfl) (Wanted.free rfl) (V.nilCheck rfl rfl) rfl ?_
    refine RH.val 8 rfl (by kernel_rfl) (by kernel_rfl) (by kernel_rfl) (by kernel_rfl) (Wanted.free rfl) (V.fieldAddr rfl rfl fo87_0) rfl ?_
    refine RH.val 9 rfl (by kernel_rfl) (by kernel_rfl) (by kernel_rfl) (by kernel_rfl) (Wanted.free rfl) (V.load rfl on53 rfl (by repeat (first | exact Pick.here | assumption | apply Pick.there)) rfl) rfl ?_
    refine RH.val 10 rfl (by kernel_rfl) (by kernel_rfl) (by kernel_rfl) (by kernel_rfl) (Wanted.free rfl) (V.move rfl rfl) rfl ?_
    refine RH.val 11 rfl (by kernel_rfl) (by kernel_rfl) (by kernel_rfl) (by kernel_rfl) (Wanted.free rfl) (V.indexAd (j := i) rfl el53.slice rfl rfl (by first | rfl | omega) (by omega)) rfl ?_
    refine RH.val 12 rfl (by kernel_rfl) (by kernel_rfl) (by kernel_rfl) (by kernel_rfl) (Wanted.free rfl) (V.loadTri rfl on56 rfl (by repeat (first | exact Pick.here | assumption | apply Pick.there)) hF.at_) rfl ?_
    refine RH.one (i := 13) (by kernel_rfl) ?_
    refine RHone.eff rfl (Wanted.free rfl) (E.append (T := (Rep.slice R8)) rfl rfl rfl el56 el56.noInt rfl rfl (by repeat (first | exact Pick.here | assumption | apply Pick.there)) (Src.buf (a := a1) (m := m1) (c := c1) (e := 32) (by decide) (by repeat (first | exact Pick.here | assumption | apply Pick.there))) (by simp; omega) (by simp; omega)) rfl ?_
    intro _ _ hK35
    try rw [List.nil_append] at hK35
    try rw [Nat.zero_add] at hK35
    rw [hm1] at hK35
    obtain ⟨a38, c38, rfl, rfl⟩ := hK35
    refine ⟨.inr (by repeat (first | exact Ent.refl _ | (apply Ent.cons; (· repeat (first | exact Pick.here | (refine Pick.sl ?_; (· repeat (first | exact List.Mem.head _ | assumption | apply List.Mem.tail))) | apply Pick.there))) | (refine Ent.trans (Ent.drop _ _) ?_))), ?_⟩
    refine RH.one (i := 14) (by kernel_rfl) ?_
    refine RHone.eff rfl (Wanted.free rfl) (E.lit1 _ rfl el53.slice ze56 rfl (by decide) (by decide) rfl rfl rfl) rfl ?_
    rintro _ _ ⟨b39, rfl, rfl⟩
    refine ⟨.inr (by repeat (first | exact Ent.refl _ | (apply Ent.cons; (· repeat (first | exact Pick.here | (refine Pick.sl ?_; (· repeat (first | exact List.Mem.head _ | assumption | apply List.Mem.tail))) | apply Pick.there))) | (refine Ent.trans (Ent.drop _ _) ?_))), ?_⟩
    refine RH.one (i := 15) (by kernel_rfl) ?_
    refine RHone.eff rfl (Wanted.free rfl) (E.append (T := RTri) rfl rfl rfl el53 el53.noInt rfl rfl (by repeat (first | exact Pick.here | assumption | apply Pick.there)) (Src.lit (x := (a38, m1, c38)) (E := 56) (b := b39) (by repeat (first | exact Pick.here | assumption | apply Pick.there)) trivial) (by first | omega | (simp; omega)) (by first | omega | (simp; omega))) rfl ?_
    intro _ _ hK37
    try rw [List.nil_append] at hK37
    try rw [Nat.zero_add] at hK37
    obtain ⟨a40, c40, rfl, rfl⟩ := hK37
    refine ⟨.inr (by repeat (first | exact Ent.refl _ | (apply Ent.cons; (· repeat (first | exact Pick.here | (refine Pick.sl ?_; (· repeat (first | exact List.Mem.head _ | assumption | apply List.Mem.tail))) | apply Pick.there))) | (refine Ent.trans (Ent.drop _ _) ?_))), ?_⟩
    refine RH.pure 16 rfl (by kernel_rfl) (by kernel_rfl) (by kernel_rfl) (by kernel_rfl) (Wanted.free rfl) (V.nilCheck rfl rfl) rfl ?_
    refine RH.val 17 rfl (by kernel_rfl) (by kernel_rfl) (by kernel_rfl) (by kernel_rfl) (Wanted.free rfl) (V.fieldAddr rfl rfl fo87_0) rfl ?_
    refine RH.one (i := 18) (by kernel_rfl) ?_
    refine RHone.eff rfl (Wanted.free rfl) (E.store1 rfl rfl rfl rfl rfl sz53 (by repeat (first | exact Pick.here | assumption | apply Pick.there)) rfl) rfl ?_
    rintro _ _ rfl
    refine ⟨.inl (by kernel_rfl), ?_⟩
    refine RH.done (by kernel_rfl) ?_
    refine SG.inBlock ?_
    refine SG.region ?_
    refine RL.val (Wanted.free rfl) (V.move rfl rfl) rfl ?_
    refine RL.val (Wanted.free rfl) (V.bin rfl rfl rfl (B.addI (by omega) (by omega))) rfl ?_
    refine RL.val (Wanted.free rfl) (V.assign rfl rfl) rfl ?_
    refine RL.nil ?_
    refine SG.weaken (ih0 _ _ _ ?_ ⟨i + 1, a40, c40, by omega, rfl, rfl, rfl⟩) ?_ ?_
    · omega
    · repeat (first | exact EnvLe.nil _ | refine EnvLe.cons rfl ?_)
    · rw [htk]
      refine Ent.cons (by repeat (first | exact Pick.here | assumption | apply Pick.there)) ?_
      refine Ent.trans ?_ (Nest.snoc (a1 := a38) (m1 := m1) (c1 := c38) (L := Blk b 87 [.slice (some ad) D.S.length c, .bool D.off, vI (rf D.fuse)] :: Nest (Rep.slice R8) 32 56 (some ad) D.S.length c D.S :: L1) hts hxs)
      refine Ent.cons (by repeat (first | exact Pick.here | assumption | apply Pick.there)) ?_
      refine Ent.cons (A := Buf (Rep.slice R8) 32 a38 m1 c38 l) (by repeat (first | exact Pick.here | assumption | apply Pick.there)) ?_
      refine Ent.cons (A := Each (nown (Rep.slice R8) 32) xs2) (by repeat (first | exact Pick.here | assumption | apply Pick.there)) ?_
      refine Ent.cons (by repeat (first | exact Pick.here | assumption | apply Pick.there)) ?_
      refine Ent.trans ?_ (hF.back _)
      repeat (first | exact Ent.refl _ | (apply Ent.cons; (· repeat (first | exact Pick.here | (refine Pick.sl ?_; (· repeat (first | exact List.Mem.head _ | assumption | apply List.Mem.tail))) | apply Pick.there))) | (refine Ent.trans (Ent.drop _ _) ?_))
  · skip
    refine RL.nil ?_
    refine SG.cond_false rfl ?_
    refine SG.exit rfl ?_
    refine SG.seq ?_
    refine SG.region ?_
    refine RL.val (Wanted.free rfl) (V.move rfl rfl) rfl ?_
    refine RL.val (Wanted.free rfl) (V.assign rfl rfl) rfl ?_
    refine RL.nil ?_
    obtain rfl : i = D.S.length := by omega
    rw [List.take_length]
    refine SG.openNest (a := a) (by repeat (first | exact Pick.here | assumption | apply Pick.there)) fun ts xs hts hxs => ?_
    refine SG.bufAd (T := RTri) (a := a) (by repeat (first | exact Pick.here | assumption | apply Pick.there)) (by omega) fun ad2 had => ?_
    subst had
    refine SG.retE (Ret.r1 Try.func51 rfl (.tmp rfl)) ?_ ⟨_, rfl, rfl⟩
    refine RDsk.ent (ad := ad2) (c := c2) ?_
    refine Ent.cons (by repeat (first | exact Pick.here | assumption | apply Pick.there)) ?_
    subst hts
    refine Ent.trans ?_ (Nest.close (L := RDsk b D :: L1) hxs)
    refine Ent.cons (by repeat (first | exact Pick.here | assumption | apply Pick.there)) ?_
    refine Ent.cons (by repeat (first | exact Pick.here | assumption | apply Pick.there)) ?_
    refine RDsk.ent (ad := ad) (c := c) ?_
    repeat (first | exact Ent.refl _ | (apply Ent.cons; (· repeat (first | exact Pick.here | (refine Pick.sl ?_; (· repeat (first | exact List.Mem.head _ | assumption | apply List.Mem.tail))) | apply Pick.there))) | (refine Ent.trans (Ent.drop _ _) ?_))

set_option maxRecDepth 100000 in
theorem rSurv_ok {κ : World} {L : List Assn} {L1 : List Assn} {a1 : Option Addr} {m1 c1 : Nat} {l : List Sec} (w b : Int) (hp : Pick (Buf (Rep.slice R8) 32 a1 m1 c1 l) L L1) (hl : l ≠ []) (hl3 : ∀ s ∈ l, s.length = 64) :
    Ctr Try.prog 64 #[.slice a1 m1 c1, vI w, vI b] κ L (fun v M => ∃ a' m' c', v = .slice a' m' c' ∧ M = Buf R8 5 a' m' c' (surv l w b) :: L) := by
  refine Ctr.enter (vs := [.slice a1 m1 c1, vI w, vI b]) (m := 45) Try.func64 rfl rfl rfl ?_
  refine SG.buf hp fun hm1 hmc1 hc1 => ?_
  have hpos := List.length_pos_iff.2 hl
  obtain ⟨hw0, hw1⟩ := limit_bd (n := w) (most := (m1 : Int) - 1) (by omega)
  obtain ⟨hb0, hb1⟩ := limit_bd (n := b) (most := 64) (by omega)
  obtain ⟨wn, hwn⟩ := Int.eq_ofNat_of_zero_le hw0
  obtain ⟨nb, hnb⟩ := Int.eq_ofNat_of_zero_le hb0
  have hsv : surv l w b = if wn + 1 < l.length then (nth l (wn + 1)).take nb ++ (nth l wn).drop nb else nth l wn := by
        unfold surv
        rw [show (l.length : Int) - 1 = (m1 : Int) - 1 from by omega, hwn, hnb]; rfl
  rw [hsv]
  have h64 : (nth l wn).length = 64 := hl3 _ (nth_mem (by omega))
  have hget : l[wn]? = some (nth l wn) := nth_get (by omega)
  refine SG.seq ?_
  refine SG.region ?_
  refine RL.val (Wanted.free rfl) (V.assign rfl rfl) rfl ?_
  refine RL.nil ?_
  refine SG.seq ?_
  refine SG.region ?_
  refine RL.val (Wanted.free rfl) (V.move rfl rfl) rfl ?_
  refine RL.val (Wanted.free rfl) (V.move rfl rfl) rfl ?_
  refine RL.val (Wanted.free rfl) (V.len rfl rfl el56.under rfl) rfl ?_
  refine RL.val (Wanted.free rfl) (V.bin rfl rfl rfl (B.subI (by omega) (by omega))) rfl ?_
  refine RL.eff (Wanted.free rfl) (E.call rfl go67 rfl (limit_ok _ _ (by omega))) rfl ?_
  rintro _ _ ⟨rfl, hM⟩
  rw [hM, hwn]
  refine RL.val (Wanted.free rfl) (V.assign rfl rfl) rfl ?_
  refine RL.nil ?_
  refine SG.seq ?_
  refine SG.region ?_
  refine RL.val (Wanted.free rfl) (V.move rfl rfl) rfl ?_
  refine RL.val (Wanted.free rfl) (V.move rfl rfl) rfl ?_
  refine RL.val (Wanted.free rfl) (V.indexBuf (j := wn) rfl el56.slice rfl rfl hp (by first | rfl | omega) (by omega)) rfl ?_
  refine RL.eff (Wanted.free rfl) (E.loadBufSl (j := wn) rfl on32 rfl hp hget) rfl ?_
  rintro _ _ ⟨a18, m18, c18, rfl, rfl⟩
  refine RL.eff (Wanted.free rfl) (E.call rfl go33 rfl (few_ok (a := a18) (by repeat (first | exact List.Mem.head _ | assumption | apply List.Mem.tail)) (by omega) (by omega))) rfl ?_
  rintro _ _ ⟨a19, k19, c19, rfl, rfl⟩
  rw [show (nth l wn).take (Int.toNat 64) = nth l wn from List.take_of_length_le (by rw [h64]; decide)]
  refine RL.val (Wanted.free rfl) (V.assign rfl rfl) rfl ?_
  refine RL.nil ?_
  refine SG.seq ?_
  refine SG.seq ?_
  refine SG.region ?_
  refine RL.val (Wanted.free rfl) (V.assign rfl rfl) rfl ?_
  refine RL.nil ?_
  refine SG.block ?_
  refine SG.ent (?_ : Ent _ (Buf R8 5 a19 k19 c19 (nth l wn) :: L)) ?_
  · repeat (first | exact Ent.refl _ | (apply Ent.cons; (· repeat (first | exact Pick.here | (refine Pick.sl ?_; (· repeat (first | exact List.Mem.head _ | assumption | apply List.Mem.tail))) | apply Pick.there))) | (refine Ent.trans (Ent.drop _ _) ?_))
  refine SG.weaken (SG.loop2 (fun m al M => ∃ i : Nat, i ≤ nb ∧ (i = 0 ∨ wn + 1 < l.length) ∧ m = nb - i ∧ al = [(0, .slice a1 m1 c1), (1, vI w), (2, vI b), (7, vI wn), (8, .slice a19 k19 c19), (9, vI i)] ∧ M = Buf R8 5 a19 k19 c19 ((nth l (wn + 1)).take i ++ (nth l wn).drop i) :: L) (m0 := _) ⟨0, by omega, .inl rfl, rfl, rfl, rfl⟩ ?_) ?_ ?_
  rotate_left
  · repeat (first | exact EnvLe.nil _ | refine EnvLe.cons rfl ?_)
  · rw [List.take_zero, List.drop_zero, List.nil_append]
    repeat (first | exact Ent.refl _ | (apply Ent.cons; (· repeat (first | exact Pick.here | (refine Pick.sl ?_; (· repeat (first | exact List.Mem.head _ | assumption | apply List.Mem.tail))) | apply Pick.there))) | (refine Ent.trans (Ent.drop _ _) ?_))
  rintro _ _ _ ⟨i, hi, hi0, rfl, rfl, rfl⟩ ih0
  refine SG.seq ?_
  refine SG.seq ?_
  refine SG.region ?_
  refine RL.val (Wanted.free rfl) (V.move rfl rfl) rfl ?_
  refine RL.val (Wanted.free rfl) (V.move rfl rfl) rfl ?_
  refine RL.eff (Wanted.free rfl) (E.call rfl go67 rfl (limit_ok _ _ (by omega))) rfl ?_
  rintro _ _ ⟨rfl, hM⟩
  rw [hM, hnb]
  refine RL.cmp (Wanted.free rfl) (V.bin rfl rfl rfl B.lss) rfl (fun h18 => ?_) (fun h18 => ?_)
  · skip
    refine RL.val (Wanted.free rfl) (V.move rfl rfl) rfl ?_
    refine RL.val (Wanted.yes rfl rfl rfl rfl) (V.move rfl rfl) rfl ?_
    refine RL.val (Wanted.yes rfl rfl rfl rfl) (V.bin rfl rfl rfl (B.addI (by omega) (by omega))) rfl ?_
    refine RL.val (Wanted.yes rfl rfl rfl rfl) (V.move rfl rfl) rfl ?_
    refine RL.val (Wanted.yes rfl rfl rfl rfl) (V.len rfl rfl el56.under rfl) rfl ?_
    refine RL.cmp (Wanted.yes rfl rfl rfl rfl) (V.bin rfl rfl rfl B.lss) rfl (fun h24 => ?_) (fun h24 => ?_)
    · skip
      refine RL.val (Wanted.free rfl) (V.pick_true rfl rfl rfl) rfl ?_
      refine RL.nil ?_
      refine SG.cond_true rfl ?_
      refine SG.skip ?_
      refine SG.seq ?_
      refine SG.block ?_
      have hn1 : (nth l (wn + 1)).length = 64 := hl3 _ (nth_mem (by omega))
      have hget2 : l[wn + 1]? = some (nth l (wn + 1)) := nth_get (by omega)
      refine SG.buf (T := R8) (a := a19) (by repeat (first | exact Pick.here | assumption | apply Pick.there)) fun hk19 _ _ => ?_
      refine SG.region ?_
      refine RL.val (Wanted.free rfl) (V.move rfl rfl) rfl ?_
      refine RL.val (Wanted.free rfl) (V.move rfl rfl) rfl ?_
      refine RL.val (Wanted.free rfl) (V.move rfl rfl) rfl ?_
      refine RL.val (Wanted.free rfl) (V.move rfl rfl) rfl ?_
      refine RL.val (Wanted.free rfl) (V.bin rfl rfl rfl (B.addI (by omega) (by omega))) rfl ?_
      refine RL.val (Wanted.free rfl) (V.indexBuf (j := wn + 1) rfl el56.slice rfl rfl (by repeat (first | exact Pick.here | assumption | apply Pick.there)) (by first | rfl | omega) (by omega)) rfl ?_
      refine RL.eff (Wanted.free rfl) (E.loadBufSl (j := wn + 1) rfl on32 rfl (by repeat (first | exact Pick.here | assumption | apply Pick.there)) hget2) rfl ?_
      rintro _ _ ⟨a31, m31, c31, rfl, rfl⟩
      refine RL.val (Wanted.free rfl) (V.move rfl rfl) rfl ?_
      refine RL.val (Wanted.free rfl) (V.indexSl (j := i) rfl el32.slice rfl rfl (by repeat (first | exact List.Mem.head _ | assumption | apply List.Mem.tail)) (by first | rfl | omega) (by rw [hn1]; omega)) rfl ?_
      refine RL.val (Wanted.free rfl) (V.loadSc rfl on5 rfl (by repeat (first | exact List.Mem.head _ | assumption | apply List.Mem.tail)) (List.getElem?_eq_getElem (by rw [hn1]; omega))) rfl ?_
      refine RL.val (Wanted.free rfl) (V.indexBuf (j := i) rfl el32.slice rfl rfl (by repeat (first | exact Pick.here | assumption | apply Pick.there)) (by first | rfl | omega) (by simp; omega)) rfl ?_
      refine RL.eff (Wanted.free rfl) (E.storeBuf (T := R8) (j := i) (y := (nth l (wn + 1))[i]'(by omega)) [v8 ((nth l (wn + 1))[i]'(by omega))] rfl sz5 rfl rfl rfl (by repeat (first | exact Pick.here | assumption | apply Pick.there)) (by simp; omega) (fun _ _ _ => ⟨rfl, trivial⟩)) rfl ?_
      rintro _ _ rfl
      refine RL.nil ?_
      refine SG.inBlock ?_
      refine SG.region ?_
      refine RL.val (Wanted.free rfl) (V.move rfl rfl) rfl ?_
      refine RL.val (Wanted.free rfl) (V.bin rfl rfl rfl (B.addI (by omega) (by omega))) rfl ?_
      refine RL.val (Wanted.free rfl) (V.assign rfl rfl) rfl ?_
      refine RL.nil ?_
      refine SG.weaken (ih0 _ _ _ ?_ ⟨i + 1, by omega, .inr (by omega), rfl, rfl, rfl⟩) ?_ ?_
      · omega
      · repeat (first | exact EnvLe.nil _ | refine EnvLe.cons rfl ?_)
      · rw [show (nth l (wn + 1)).take (i + 1) ++ (nth l wn).drop (i + 1) = ((nth l (wn + 1)).take i ++ (nth l wn).drop i).set i ((nth l (wn + 1))[i]'(by omega)) from mix_step (by omega) (by omega)]
        repeat (first | exact Ent.refl _ | (apply Ent.cons; (· repeat (first | exact Pick.here | (refine Pick.sl ?_; (· repeat (first | exact List.Mem.head _ | assumption | apply List.Mem.tail))) | apply Pick.there))) | (refine Ent.trans (Ent.drop _ _) ?_))
    · skip
      refine RL.val (Wanted.free rfl) (V.pick_true rfl rfl rfl) rfl ?_
      refine RL.nil ?_
      refine SG.cond_false rfl ?_
      refine SG.exit rfl ?_
      refine SG.seq ?_
      refine SG.region ?_
      refine RL.val (Wanted.free rfl) (V.move rfl rfl) rfl ?_
      refine RL.val (Wanted.free rfl) (V.assign rfl rfl) rfl ?_
      refine RL.nil ?_
      have hfin : ((nth l (wn + 1)).take i ++ (nth l wn).drop i) = if wn + 1 < l.length then (nth l (wn + 1)).take nb ++ (nth l wn).drop nb else nth l wn := by rw [show i = 0 from by omega, if_neg (by omega)]; simp
      rw [hfin]
      refine SG.retE (Ret.r1 Try.func64 rfl (.tmp rfl)) ?_ ⟨_, _, _, rfl, rfl⟩
      repeat (first | exact Ent.refl _ | (apply Ent.cons; (· repeat (first | exact Pick.here | (refine Pick.sl ?_; (· repeat (first | exact List.Mem.head _ | assumption | apply List.Mem.tail))) | apply Pick.there))) | (refine Ent.trans (Ent.drop _ _) ?_))
  · skip
    refine RL.val (Wanted.free rfl) (V.move rfl rfl) rfl ?_
    refine RL.skip (Wanted.no rfl rfl rfl rfl rfl) rfl ?_
    refine RL.skip (Wanted.no rfl rfl rfl rfl rfl) rfl ?_
    refine RL.skip (Wanted.no rfl rfl rfl rfl rfl) rfl ?_
    refine RL.skip (Wanted.no rfl rfl rfl rfl rfl) rfl ?_
    refine RL.skip (Wanted.no rfl rfl rfl rfl rfl) rfl ?_
    refine RL.val (Wanted.free rfl) (V.pick_false rfl rfl rfl) rfl ?_
    refine RL.nil ?_
    refine SG.cond_false rfl ?_
    refine SG.exit rfl ?_
    refine SG.seq ?_
    refine SG.region ?_
    refine RL.val (Wanted.free rfl) (V.move rfl rfl) rfl ?_
    refine RL.val (Wanted.free rfl) (V.assign rfl rfl) rfl ?_
    refine RL.nil ?_
    have hfin : ((nth l (wn + 1)).take i ++ (nth l wn).drop i) = if wn + 1 < l.length then (nth l (wn + 1)).take nb ++ (nth l wn).drop nb else nth l wn := by
      by_cases hc : wn + 1 < l.length
      · rw [if_pos hc, show i = nb from by omega]
      · rw [if_neg hc, show i = 0 from by omega]; simp
    rw [hfin]
    refine SG.retE (Ret.r1 Try.func64 rfl (.tmp rfl)) ?_ ⟨_, _, _, rfl, rfl⟩
    repeat (first | exact Ent.refl _ | (apply Ent.cons; (· repeat (first | exact Pick.here | (refine Pick.sl ?_; (· repeat (first | exact List.Mem.head _ | assumption | apply List.Mem.tail))) | apply Pick.there))) | (refine Ent.trans (Ent.drop _ _) ?_))

set_option maxRecDepth 100000 in
theorem rRestart_ok {κ : World} {L : List Assn} {L1 : List Assn} {b : Nat} {D : Dk} {m0 : Nat} (hD : D.ok m0) (hp : Pick (RDsk b D) L L1) {a0 : Option Addr} {n0 c0 : Nat} {ts : List Torn} (hm : Sl RTorn a0 n0 c0 ts ∈ L1) (hm1 : 1 ≤ m0) (hm0 : m0 ≤ 1000000) :
    Ctr Try.prog 50 #[ptr b 0, .slice a0 n0 c0] κ L (fun v M => v = .tuple #[] ∧ M = RDsk b (D.restart ts) :: L1) := by
  refine Ctr.enter (vs := [ptr b 0, .slice a0 n0 c0]) (m := 92) Try.func50 rfl rfl rfl ?_
  refine SG.openR hp fun ad c => ?_
  refine SG.sl (List.Mem.tail _ (List.Mem.tail _ hm)) fun hl hlc hc63 => ?_
  subst hl
  have hlen := hD.len
  refine SG.seq ?_
  refine SG.seq ?_
  refine SG.region ?_
  refine RL.val (Wanted.free rfl) (V.assign rfl rfl) rfl ?_
  refine RL.nil ?_
  refine SG.block ?_
  refine SG.weaken (SG.loop2 (fun m al M => ∃ i : Nat, i ≤ D.S.length ∧ m = D.S.length - i ∧ al = [(0, ptr b 0), (1, .slice a0 ts.length c0), (4, vI i)] ∧ M = Blk b 87 [.slice (some ad) D.S.length c, .bool D.off, vI (rf D.fuse)] :: Nest (Rep.slice R8) 32 56 (some ad) D.S.length c (upTo (fun k l => [left l (firstOf ts k)]) i D.S) :: L1) (m0 := _) ⟨0, by omega, rfl, rfl, rfl⟩ ?_) ?_ ?_
  rotate_left
  · repeat (first | exact EnvLe.nil _ | refine EnvLe.cons rfl ?_)
  · rw [upTo_zero]
    repeat (first | exact Ent.refl _ | (apply Ent.cons; (· repeat (first | exact Pick.here | (refine Pick.sl ?_; (· repeat (first | exact List.Mem.head _ | assumption | apply List.Mem.tail))) | apply Pick.there))) | (refine Ent.trans (Ent.drop _ _) ?_))
  rintro _ _ _ ⟨i, hi, rfl, rfl, rfl⟩ ih0
  refine SG.seq ?_
  refine SG.seq ?_
  refine SG.region ?_
  refine RL.val (Wanted.free rfl) (V.move rfl rfl) rfl ?_
  refine RL.val (Wanted.free rfl) (V.move rfl rfl) rfl ?_
  refine RL.val (Wanted.free rfl) (V.nilCheck rfl rfl) rfl ?_
  refine RL.val (Wanted.free rfl) (V.fieldAddr rfl rfl fo87_0) rfl ?_
  refine RL.val (Wanted.free rfl) (V.load rfl on53 rfl (by repeat (first | exact Pick.here | assumption | apply Pick.there)) rfl) rfl ?_
  refine RL.val (Wanted.free rfl) (V.len rfl rfl el53.under rfl) rfl ?_
  refine RL.cmp (Wanted.free rfl) (V.bin rfl rfl rfl B.lss) rfl (fun h8 => ?_) (fun h8 => ?_)
  · skip
    refine RL.nil ?_
    refine SG.cond_true rfl ?_
    refine SG.skip ?_
    refine SG.seq ?_
    refine SG.block ?_
    refine SG.seq ?_
    have hin : i < D.S.length := by omega
    have hk : D.S[i]? = some D.S[i] := List.getElem?_eq_getElem hin
    have hst := upTo_step (g := (fun k l => [left l (firstOf ts k)])) hk
    have hcur : (upTo (fun k l => [left l (firstOf ts k)]) i D.S)[i]? = some D.S[i] := by rw [upTo_get hk, if_neg (by omega)]
    obtain ⟨hl1, hl2, hl3⟩ := hD.all _ (mem_of hk)
    generalize D.S[i] = l at *
    refine SG.nest (by repeat (first | exact Pick.here | assumption | apply Pick.there)) hcur fun xts a1 m1 c1 xs hF => ?_
    refine SG.buf (a := a1) (by repeat (first | exact Pick.here | assumption | apply Pick.there)) fun hm1b hmc1 _ => ?_
    have htl := hF.len
    rw [upTo_len] at htl
    have hpos := List.length_pos_iff.2 hl1
    refine SG.region ?_
    refine RL.val (Wanted.free rfl) (V.assign rfl rfl) rfl ?_
    refine RL.nil ?_
    refine SG.seq ?_
    refine SG.seq ?_
    refine SG.region ?_
    refine RL.val (Wanted.free rfl) (V.assign rfl rfl) rfl ?_
    refine RL.nil ?_
    refine SG.join (ι := Int) (fun x => [(0, ptr b 0), (1, .slice a0 ts.length c0), (4, vI i), (5, vI x)]) (fun x => Buf RTri 56 (some ad) D.S.length c xts :: Buf (Rep.slice R8) 32 a1 m1 c1 l :: Each (nown (Rep.slice R8) 32) xs :: Blk b 87 [.slice (some ad) D.S.length c, .bool D.off, vI (rf D.fuse)] :: L1) (fun x => SP ts i l x ∧ -1 ≤ x ∧ x ≤ ts.length) ?_ (fun rest => ?_)
    · rintro x ⟨hP, hx1, hx2⟩
      try dsimp only
      refine SG.seq ?_
      refine SG.region ?_
      refine RL.val (Wanted.free rfl) (V.move rfl rfl) rfl ?_
      refine RL.cmp (Wanted.free rfl) (V.bin rfl rfl rfl B.lss) rfl (fun h12 => ?_) (fun h12 => ?_)
      · skip
        obtain ⟨_, hleft⟩ : x = -1 ∧ left l (firstOf ts i) = hd l := by rcases hP with hP | ⟨_, _, _, hq, _⟩; exact hP; omega
        refine RL.nil ?_
        refine SG.cond_true rfl ?_
        refine SG.drawL 15 14 wide rfl rfl ?_
        refine RH.val 0 rfl (by kernel_rfl) (by kernel_rfl) (by kernel_rfl) (by kernel_rfl) (Wanted.free rfl) (V.move rfl rfl) rfl ?_
        refine RH.val 1 rfl (by kernel_rfl) (by kernel_rfl) (by kernel_rfl) (by kernel_rfl) (Wanted.free rfl) (V.nilCheck rfl rfl) rfl ?_
        refine RH.val 2 rfl (by kernel_rfl) (by kernel_rfl) (by kernel_rfl) (by kernel_rfl) (Wanted.free rfl) (V.fieldAddr rfl rfl fo87_0) rfl ?_
        refine RH.val 3 rfl (by kernel_rfl) (by kernel_rfl) (by kernel_rfl) (by kernel_rfl) (Wanted.free rfl) (V.load rfl on53 rfl (by repeat (first | exact Pick.here | assumption | apply Pick.there)) rfl) rfl ?_
        refine RH.val 4 rfl (by kernel_rfl) (by kernel_rfl) (by kernel_rfl) (by kernel_rfl) (Wanted.free rfl) (V.move rfl rfl) rfl ?_
        refine RH.val 5 rfl (by kernel_rfl) (by kernel_rfl) (by kernel_rfl) (by kernel_rfl) (Wanted.free rfl) (V.move rfl rfl) rfl ?_
        refine RH.val 6 rfl (by kernel_rfl) (by kernel_rfl) (by kernel_rfl) (by kernel_rfl) (Wanted.free rfl) (V.nilCheck rfl rfl) rfl ?_
        refine RH.val 7 rfl (by kernel_rfl) (by kernel_rfl) (by kernel_rfl) (by kernel_rfl) (Wanted.free rfl) (V.fieldAddr rfl rfl fo87_0) rfl ?_
        refine RH.val 8 rfl (by kernel_rfl) (by kernel_rfl) (by kernel_rfl) (by kernel_rfl) (Wanted.free rfl) (V.load rfl on53 rfl (by repeat (first | exact Pick.here | assumption | apply Pick.there)) rfl) rfl ?_
        refine RH.val 9 rfl (by kernel_rfl) (by kernel_rfl) (by kernel_rfl) (by kernel_rfl) (Wanted.free rfl) (V.move rfl rfl) rfl ?_
        refine RH.val 10 rfl (by kernel_rfl) (by kernel_rfl) (by kernel_rfl) (by kernel_rfl) (Wanted.free rfl) (V.indexAd (j := i) rfl el53.slice rfl rfl (by first | rfl | omega) (by omega)) rfl ?_
        refine RH.val 11 rfl (by kernel_rfl) (by kernel_rfl) (by kernel_rfl) (by kernel_rfl) (Wanted.free rfl) (V.loadTri rfl on56 rfl (by repeat (first | exact Pick.here | assumption | apply Pick.there)) hF.at_) rfl ?_
        refine RH.val 12 rfl (by kernel_rfl) (by kernel_rfl) (by kernel_rfl) (by kernel_rfl) (Wanted.free rfl) (V.sliceTo (hi := 1) rfl el56.slice rfl ⟨_, _, rfl, (by first | rfl | omega)⟩ (by omega)) rfl ?_
        refine RH.val 13 rfl (by kernel_rfl) (by kernel_rfl) (by kernel_rfl) (by kernel_rfl) (Wanted.free rfl) (V.indexAd (j := i) rfl el53.slice rfl rfl (by first | rfl | omega) (by omega)) rfl ?_
        refine RH.one (i := 14) (by kernel_rfl) ?_
        refine RHone.eff rfl (Wanted.free rfl) (E.storeBuf (T := RTri) (j := i) (y := (a1, 1, c1)) [.slice a1 1 c1] rfl sz56 rfl rfl rfl (by repeat (first | exact Pick.here | assumption | apply Pick.there)) (by omega) (fun _ _ _ => ⟨rfl, trivial⟩)) rfl ?_
        rintro _ _ rfl
        refine ⟨.inl (by kernel_rfl), ?_⟩
        refine RH.done (by kernel_rfl) ?_
        refine SG.inBlock ?_
        refine SG.region ?_
        refine RL.val (Wanted.free rfl) (V.move rfl rfl) rfl ?_
        refine RL.val (Wanted.free rfl) (V.bin rfl rfl rfl (B.addI (by omega) (by omega))) rfl ?_
        refine RL.val (Wanted.free rfl) (V.assign rfl rfl) rfl ?_
        refine RL.nil ?_
        refine SG.ent (Ent.trans (b := Buf (Rep.slice R8) 32 a1 m1 c1 l :: _) (by repeat (first | exact Pick.here | assumption | apply Pick.there)) (Buf.cut (m' := 1) (by omega))) ?_
        rw [take_one hl1]
        refine SG.weaken (ih0 _ _ _ ?_ ⟨i + 1, by omega, rfl, rfl, rfl⟩) ?_ ?_
        · omega
        · repeat (first | exact EnvLe.nil _ | refine EnvLe.cons rfl ?_)
        · rw [hst, hleft]
          refine Ent.cons (by repeat (first | exact Pick.here | assumption | apply Pick.there)) ?_
          refine Ent.trans ?_ (hF.put a1 1 c1 [hd l] L1)
          repeat (first | exact Ent.refl _ | (apply Ent.cons; (· repeat (first | exact Pick.here | (refine Pick.sl ?_; (· repeat (first | exact List.Mem.head _ | assumption | apply List.Mem.tail))) | apply Pick.there))) | (refine Ent.trans (Ent.drop _ _) ?_))
      · skip
        obtain ⟨q, t, hqlt, rfl, hq, hft, hl1l⟩ : ∃ (q : Nat) (t : Torn), q < ts.length ∧ x = (q : Int) ∧ ts[q]? = some t ∧ firstOf ts i = some t ∧ 1 < l.length := by rcases hP with hP | hP; omega; exact hP
        refine RL.fact (p := True) (fun _ _ => trivial) fun _ => ?_
        refine RL.nil ?_
        refine SG.cond_false rfl ?_
        refine SG.elemDt (a := a0) (by repeat (first | exact List.Mem.head _ | assumption | apply List.Mem.tail)) hq fun htok => ?_
        refine SG.drawL 26 25 wide rfl rfl ?_
        refine RH.val 0 rfl (by kernel_rfl) (by kernel_rfl) (by kernel_rfl) (by kernel_rfl) (Wanted.free rfl) (V.move rfl rfl) rfl ?_
        refine RH.val 1 rfl (by kernel_rfl) (by kernel_rfl) (by kernel_rfl) (by kernel_rfl) (Wanted.free rfl) (V.nilCheck rfl rfl) rfl ?_
        refine RH.val 2 rfl (by kernel_rfl) (by kernel_rfl) (by kernel_rfl) (by kernel_rfl) (Wanted.free rfl) (V.fieldAddr rfl rfl fo87_0) rfl ?_
        refine RH.val 3 rfl (by kernel_rfl) (by kernel_rfl) (by kernel_rfl) (by kernel_rfl) (Wanted.free rfl) (V.load rfl on53 rfl (by repeat (first | exact Pick.here | assumption | apply Pick.there)) rfl) rfl ?_
        refine RH.val 4 rfl (by kernel_rfl) (by kernel_rfl) (by kernel_rfl) (by kernel_rfl) (Wanted.free rfl) (V.move rfl rfl) rfl ?_
        refine RH.val 5 rfl (by kernel_rfl) (by kernel_rfl) (by kernel_rfl) (by kernel_rfl) (Wanted.free rfl) (V.move rfl rfl) rfl ?_
        refine RH.val 6 rfl (by kernel_rfl) (by kernel_rfl) (by kernel_rfl) (by kernel_rfl) (Wanted.free rfl) (V.nilCheck rfl rfl) rfl ?_
        refine RH.val 7 rfl (by kernel_rfl) (by kernel_rfl) (by kernel_rfl) (by kernel_rfl) (Wanted.free rfl) (V.fieldAddr rfl rfl fo87_0) rfl ?_
        refine RH.val 8 rfl (by kernel_rfl) (by kernel_rfl) (by kernel_rfl) (by kernel_rfl) (Wanted.free rfl) (V.load rfl on53 rfl (by repeat (first | exact Pick.here | assumption | apply Pick.there)) rfl) rfl ?_
        refine RH.val 9 rfl (by kernel_rfl) (by kernel_rfl) (by kernel_rfl) (by kernel_rfl) (Wanted.free rfl) (V.move rfl rfl) rfl ?_
        refine RH.val 10 rfl (by kernel_rfl) (by kernel_rfl) (by kernel_rfl) (by kernel_rfl) (Wanted.free rfl) (V.indexAd (j := i) rfl el53.slice rfl rfl (by first | rfl | omega) (by omega)) rfl ?_
        refine RH.val 11 rfl (by kernel_rfl) (by kernel_rfl) (by kernel_rfl) (by kernel_rfl) (Wanted.free rfl) (V.loadTri rfl on56 rfl (by repeat (first | exact Pick.here | assumption | apply Pick.there)) hF.at_) rfl ?_
        refine RH.val 12 rfl (by kernel_rfl) (by kernel_rfl) (by kernel_rfl) (by kernel_rfl) (Wanted.free rfl) (V.move rfl rfl) rfl ?_
        refine RH.val 13 rfl (by kernel_rfl) (by kernel_rfl) (by kernel_rfl) (by kernel_rfl) (Wanted.free rfl) (V.move rfl rfl) rfl ?_
        refine RH.val 14 rfl (by kernel_rfl) (by kernel_rfl) (by kernel_rfl) (by kernel_rfl) (Wanted.free rfl) (V.indexSl (j := q) rfl el33.slice rfl rfl (by repeat (first | exact List.Mem.head _ | assumption | apply List.Mem.tail)) (by first | rfl | omega) (by omega)) rfl ?_
        refine RH.val 15 rfl (by kernel_rfl) (by kernel_rfl) (by kernel_rfl) (by kernel_rfl) (Wanted.free rfl) (V.fieldAt rfl rfl fo67_1 (by repeat (first | exact List.Mem.head _ | assumption | apply List.Mem.tail))) rfl ?_
        refine RH.val 16 rfl (by kernel_rfl) (by kernel_rfl) (by kernel_rfl) (by kernel_rfl) (Wanted.free rfl) (V.loadAtF rfl on3 rfl (by repeat (first | exact List.Mem.head _ | assumption | apply List.Mem.tail)) rfl) rfl ?_
        refine RH.val 17 rfl (by kernel_rfl) (by kernel_rfl) (by kernel_rfl) (by kernel_rfl) (Wanted.free rfl) (V.move rfl rfl) rfl ?_
        refine RH.val 18 rfl (by kernel_rfl) (by kernel_rfl) (by kernel_rfl) (by kernel_rfl) (Wanted.free rfl) (V.move rfl rfl) rfl ?_
        refine RH.val 19 rfl (by kernel_rfl) (by kernel_rfl) (by kernel_rfl) (by kernel_rfl) (Wanted.free rfl) (V.indexSl (j := q) rfl el33.slice rfl rfl (by repeat (first | exact List.Mem.head _ | assumption | apply List.Mem.tail)) (by first | rfl | omega) (by omega)) rfl ?_
        refine RH.val 20 rfl (by kernel_rfl) (by kernel_rfl) (by kernel_rfl) (by kernel_rfl) (Wanted.free rfl) (V.fieldAt rfl rfl fo67_2 (by repeat (first | exact List.Mem.head _ | assumption | apply List.Mem.tail))) rfl ?_
        refine RH.val 21 rfl (by kernel_rfl) (by kernel_rfl) (by kernel_rfl) (by kernel_rfl) (Wanted.free rfl) (V.loadAtF rfl on3 rfl (by repeat (first | exact List.Mem.head _ | assumption | apply List.Mem.tail)) rfl) rfl ?_
        refine RH.one (i := 22) (by kernel_rfl) ?_
        refine RHone.eff rfl (Wanted.free rfl) (E.call rfl go64 rfl (rSurv_ok t.w t.b (a1 := a1) (by repeat (first | exact Pick.here | assumption | apply Pick.there)) (by assumption) (by assumption))) rfl ?_
        rintro _ _ ⟨a83, m83, c83, rfl, rfl⟩
        refine ⟨.inr (by repeat (first | exact Ent.refl _ | (apply Ent.cons; (· repeat (first | exact Pick.here | (refine Pick.sl ?_; (· repeat (first | exact List.Mem.head _ | assumption | apply List.Mem.tail))) | apply Pick.there))) | (refine Ent.trans (Ent.drop _ _) ?_))), ?_⟩
        refine RH.publish (a := a83) (T := R8) Pick.here ?_
        refine RH.one (i := 23) (by kernel_rfl) ?_
        refine RHone.eff rfl (Wanted.free rfl) (E.lit1 _ rfl el56.slice ze32 rfl (by decide) (by decide) rfl rfl rfl) rfl ?_
        rintro _ _ ⟨b84, rfl, rfl⟩
        refine ⟨.inr (by repeat (first | exact Ent.refl _ | (apply Ent.cons; (· repeat (first | exact Pick.here | (refine Pick.sl ?_; (· repeat (first | exact List.Mem.head _ | assumption | apply List.Mem.tail))) | apply Pick.there))) | (refine Ent.trans (Ent.drop _ _) ?_))), ?_⟩
        refine RH.val 24 rfl (by kernel_rfl) (by kernel_rfl) (by kernel_rfl) (by kernel_rfl) (Wanted.free rfl) (V.indexAd (j := i) rfl el53.slice rfl rfl (by first | rfl | omega) (by omega)) rfl ?_
        refine RH.one (i := 25) (by kernel_rfl) ?_
        refine RHone.eff rfl (Wanted.free rfl) (E.storeBuf (T := RTri) (j := i) (y := (some ⟨b84, 0, none⟩, 1, 1)) [.slice (some ⟨b84, 0, none⟩) 1 1] rfl sz56 rfl rfl rfl (by repeat (first | exact Pick.here | assumption | apply Pick.there)) (by omega) (fun _ _ _ => ⟨rfl, trivial⟩)) rfl ?_
        rintro _ _ rfl
        refine ⟨.inl (by kernel_rfl), ?_⟩
        refine RH.done (by kernel_rfl) ?_
        refine SG.inBlock ?_
        refine SG.region ?_
        refine RL.val (Wanted.free rfl) (V.move rfl rfl) rfl ?_
        refine RL.val (Wanted.free rfl) (V.bin rfl rfl rfl (B.addI (by omega) (by omega))) rfl ?_
        refine RL.val (Wanted.free rfl) (V.assign rfl rfl) rfl ?_
        refine RL.nil ?_
        refine SG.ent (Buf.lit1 (T := R8) (b := b84) (y := surv l t.w t.b) (a := a83) (m := m83) (c := c83) (by repeat (first | exact Pick.here | assumption | apply Pick.there)) (by repeat (first | exact List.Mem.head _ | assumption | apply List.Mem.tail))) ?_
        refine SG.weaken (ih0 _ _ _ ?_ ⟨i + 1, by omega, rfl, rfl, rfl⟩) ?_ ?_
        · omega
        · repeat (first | exact EnvLe.nil _ | refine EnvLe.cons rfl ?_)
        · rw [hst, hft, show left l (some t) = surv l t.w t.b from if_pos hl1l]
          refine Ent.cons (by repeat (first | exact Pick.here | assumption | apply Pick.there)) ?_
          refine Ent.trans ?_ (hF.put (some ⟨b84, 0, none⟩) 1 1 [surv l t.w t.b] L1)
          repeat (first | exact Ent.refl _ | (apply Ent.cons; (· repeat (first | exact Pick.here | (refine Pick.sl ?_; (· repeat (first | exact List.Mem.head _ | assumption | apply List.Mem.tail))) | apply Pick.there))) | (refine Ent.trans (Ent.drop _ _) ?_))
    · skip
      refine SG.block ?_
      refine SG.weaken (SG.loop2 (fun m al M => ∃ (j : Nat) (x : Int), j ≤ ts.length ∧ m = ts.length - j ∧ SJ ts i l j x ∧ -1 ≤ x ∧ x ≤ ts.length ∧ al = [(0, ptr b 0), (1, .slice a0 ts.length c0), (4, vI i), (5, vI x), (6, vI j)] ∧ M = Buf RTri 56 (some ad) D.S.length c xts :: Buf (Rep.slice R8) 32 a1 m1 c1 l :: Each (nown (Rep.slice R8) 32) xs :: Blk b 87 [.slice (some ad) D.S.length c, .bool D.off, vI (rf D.fuse)] :: L1) (m0 := _) ⟨0, -1, by omega, rfl, SJ.start ts i l, by omega, by omega, rfl, rfl⟩ ?_) ?_ ?_
      rotate_left
      · repeat (first | exact EnvLe.nil _ | refine EnvLe.cons rfl ?_)
      · repeat (first | exact Ent.refl _ | (apply Ent.cons; (· repeat (first | exact Pick.here | (refine Pick.sl ?_; (· repeat (first | exact List.Mem.head _ | assumption | apply List.Mem.tail))) | apply Pick.there))) | (refine Ent.trans (Ent.drop _ _) ?_))
      rintro _ _ _ ⟨j, x, hj, rfl, hJ, hx1, hx2, rfl, rfl⟩ ih1
      refine SG.seq ?_
      refine SG.seq ?_
      refine SG.region ?_
      refine RL.val (Wanted.free rfl) (V.move rfl rfl) rfl ?_
      refine RL.val (Wanted.free rfl) (V.move rfl rfl) rfl ?_
      refine RL.val (Wanted.free rfl) (V.len rfl rfl el33.under rfl) rfl ?_
      refine RL.cmp (Wanted.free rfl) (V.bin rfl rfl rfl B.lss) rfl (fun h63 => ?_) (fun h63 => ?_)
      · skip
        refine RL.val (Wanted.free rfl) (V.move rfl rfl) rfl ?_
        refine RL.val (Wanted.yes rfl rfl rfl rfl) (V.move rfl rfl) rfl ?_
        refine RL.cmp (Wanted.yes rfl rfl rfl rfl) (V.bin rfl rfl rfl B.lss) rfl (fun h66 => ?_) (fun h66 => ?_)
        · skip
          refine RL.val (Wanted.free rfl) (V.pick_true rfl rfl rfl) rfl ?_
          refine RL.val (Wanted.free rfl) (V.move rfl rfl) rfl ?_
          refine RL.val (Wanted.yes rfl rfl rfl rfl) (V.move rfl rfl) rfl ?_
          refine RL.val (Wanted.yes rfl rfl rfl rfl) (V.nilCheck rfl rfl) rfl ?_
          refine RL.val (Wanted.yes rfl rfl rfl rfl) (V.fieldAddr rfl rfl fo87_0) rfl ?_
          refine RL.val (Wanted.yes rfl rfl rfl rfl) (V.load rfl on53 rfl (by repeat (first | exact Pick.here | assumption | apply Pick.there)) rfl) rfl ?_
          refine RL.val (Wanted.yes rfl rfl rfl rfl) (V.move rfl rfl) rfl ?_
          refine RL.val (Wanted.yes rfl rfl rfl rfl) (V.indexAd (j := i) rfl el53.slice rfl rfl (by first | rfl | omega) (by omega)) rfl ?_
          refine RL.val (Wanted.yes rfl rfl rfl rfl) (V.loadTri rfl on56 rfl (by repeat (first | exact Pick.here | assumption | apply Pick.there)) hF.at_) rfl ?_
          refine RL.val (Wanted.yes rfl rfl rfl rfl) (V.len rfl rfl el56.under rfl) rfl ?_
          refine RL.cmp (Wanted.yes rfl rfl rfl rfl) (V.bin rfl rfl rfl B.gtr) rfl (fun h76 => ?_) (fun h76 => ?_)
          · skip
            refine RL.val (Wanted.free rfl) (V.pick_true rfl rfl rfl) rfl ?_
            refine RL.nil ?_
            refine SG.cond_true rfl ?_
            refine SG.skip ?_
            refine SG.seq ?_
            refine SG.block ?_
            refine SG.seq ?_
            refine SG.elemDt (a := a0) (by repeat (first | exact List.Mem.head _ | assumption | apply List.Mem.tail)) (show ts[j]? = some ts[j] from List.getElem?_eq_getElem (by omega)) fun htok => ?_
            refine SG.region ?_
            refine RL.val (Wanted.free rfl) (V.move rfl rfl) rfl ?_
            refine RL.val (Wanted.free rfl) (V.move rfl rfl) rfl ?_
            refine RL.val (Wanted.free rfl) (V.indexSl (j := j) rfl el33.slice rfl rfl (by repeat (first | exact List.Mem.head _ | assumption | apply List.Mem.tail)) (by first | rfl | omega) (by omega)) rfl ?_
            refine RL.val (Wanted.free rfl) (V.fieldAt rfl rfl fo67_0 (by repeat (first | exact List.Mem.head _ | assumption | apply List.Mem.tail))) rfl ?_
            refine RL.val (Wanted.free rfl) (V.loadAtF rfl on3 rfl (by repeat (first | exact List.Mem.head _ | assumption | apply List.Mem.tail)) rfl) rfl ?_
            refine RL.val (Wanted.free rfl) (V.move rfl rfl) rfl ?_
            refine RL.cmp (Wanted.free rfl) (V.bin rfl rfl rfl B.eql) rfl (fun h83 => ?_) (fun h83 => ?_)
            · skip
              refine RL.nil ?_
              refine SG.cond_true rfl ?_
              refine SG.region ?_
              refine RL.val (Wanted.free rfl) (V.move rfl rfl) rfl ?_
              refine RL.val (Wanted.free rfl) (V.assign rfl rfl) rfl ?_
              refine RL.nil ?_
              refine SG.inBlock ?_
              refine SG.region ?_
              refine RL.val (Wanted.free rfl) (V.move rfl rfl) rfl ?_
              refine RL.val (Wanted.free rfl) (V.bin rfl rfl rfl (B.addI (by omega) (by omega))) rfl ?_
              refine RL.val (Wanted.free rfl) (V.assign rfl rfl) rfl ?_
              refine RL.nil ?_
              refine SG.weaken (ih1 _ _ _ ?_ ⟨j + 1, j, by omega, rfl, hJ.found (by omega) (by omega) (by omega) (by omega), by omega, by omega, rfl, rfl⟩) ?_ ?_
              · omega
              · repeat (first | exact EnvLe.nil _ | refine EnvLe.cons rfl ?_)
              · repeat (first | exact Ent.refl _ | (apply Ent.cons; (· repeat (first | exact Pick.here | (refine Pick.sl ?_; (· repeat (first | exact List.Mem.head _ | assumption | apply List.Mem.tail))) | apply Pick.there))) | (refine Ent.trans (Ent.drop _ _) ?_))
            · skip
              refine RL.nil ?_
              refine SG.cond_false rfl ?_
              refine SG.skip ?_
              refine SG.inBlock ?_
              refine SG.region ?_
              refine RL.val (Wanted.free rfl) (V.move rfl rfl) rfl ?_
              refine RL.val (Wanted.free rfl) (V.bin rfl rfl rfl (B.addI (by omega) (by omega))) rfl ?_
              refine RL.val (Wanted.free rfl) (V.assign rfl rfl) rfl ?_
              refine RL.nil ?_
              refine SG.weaken (ih1 _ _ _ ?_ ⟨j + 1, x, by omega, rfl, hJ.skip (by omega) (by omega) (by omega), by omega, by omega, rfl, rfl⟩) ?_ ?_
              · omega
              · repeat (first | exact EnvLe.nil _ | refine EnvLe.cons rfl ?_)
              · repeat (first | exact Ent.refl _ | (apply Ent.cons; (· repeat (first | exact Pick.here | (refine Pick.sl ?_; (· repeat (first | exact List.Mem.head _ | assumption | apply List.Mem.tail))) | apply Pick.there))) | (refine Ent.trans (Ent.drop _ _) ?_))
          · skip
            refine RL.val (Wanted.free rfl) (V.pick_true rfl rfl rfl) rfl ?_
            refine RL.nil ?_
            refine SG.cond_false rfl ?_
            refine SG.exit rfl ?_
            refine SG.weaken (rest x ⟨hJ.exit (.inr (.inr (by omega))), hx1, hx2⟩) ?_ ?_
            · repeat (first | exact EnvLe.nil _ | refine EnvLe.cons rfl ?_)
            · repeat (first | exact Ent.refl _ | (apply Ent.cons; (· repeat (first | exact Pick.here | (refine Pick.sl ?_; (· repeat (first | exact List.Mem.head _ | assumption | apply List.Mem.tail))) | apply Pick.there))) | (refine Ent.trans (Ent.drop _ _) ?_))
        · skip
          refine RL.val (Wanted.free rfl) (V.pick_true rfl rfl rfl) rfl ?_
          refine RL.val (Wanted.free rfl) (V.move rfl rfl) rfl ?_
          refine RL.skip (Wanted.no rfl rfl rfl rfl rfl) rfl ?_
          refine RL.skip (Wanted.no rfl rfl rfl rfl rfl) rfl ?_
          refine RL.skip (Wanted.no rfl rfl rfl rfl rfl) rfl ?_
          refine RL.skip (Wanted.no rfl rfl rfl rfl rfl) rfl ?_
          refine RL.skip (Wanted.no rfl rfl rfl rfl rfl) rfl ?_
          refine RL.skip (Wanted.no rfl rfl rfl rfl rfl) rfl ?_
          refine RL.skip (Wanted.no rfl rfl rfl rfl rfl) rfl ?_
          refine RL.skip (Wanted.no rfl rfl rfl rfl rfl) rfl ?_
          refine RL.skip (Wanted.no rfl rfl rfl rfl rfl) rfl ?_
          refine RL.val (Wanted.free rfl) (V.pick_false rfl rfl rfl) rfl ?_
          refine RL.nil ?_
          refine SG.cond_false rfl ?_
          refine SG.exit rfl ?_
          refine SG.weaken (rest x ⟨hJ.exit (.inr (.inl (by omega))), hx1, hx2⟩) ?_ ?_
          · repeat (first | exact EnvLe.nil _ | refine EnvLe.cons rfl ?_)
          · repeat (first | exact Ent.refl _ | (apply Ent.cons; (· repeat (first | exact Pick.here | (refine Pick.sl ?_; (· repeat (first | exact List.Mem.head _ | assumption | apply List.Mem.tail))) | apply Pick.there))) | (refine Ent.trans (Ent.drop _ _) ?_))
      · skip
        refine RL.val (Wanted.free rfl) (V.move rfl rfl) rfl ?_
        refine RL.skip (Wanted.no rfl rfl rfl rfl rfl) rfl ?_
        refine RL.skip (Wanted.no rfl rfl rfl rfl rfl) rfl ?_
        refine RL.val (Wanted.free rfl) (V.pick_false rfl rfl rfl) rfl ?_
        refine RL.val (Wanted.free rfl) (V.move rfl rfl) rfl ?_
        refine RL.skip (Wanted.no rfl rfl rfl rfl rfl) rfl ?_
        refine RL.skip (Wanted.no rfl rfl rfl rfl rfl) rfl ?_
        refine RL.skip (Wanted.no rfl rfl rfl rfl rfl) rfl ?_
        refine RL.skip (Wanted.no rfl rfl rfl rfl rfl) rfl ?_
        refine RL.skip (Wanted.no rfl rfl rfl rfl rfl) rfl ?_
        refine RL.skip (Wanted.no rfl rfl rfl rfl rfl) rfl ?_
        refine RL.skip (Wanted.no rfl rfl rfl rfl rfl) rfl ?_
        refine RL.skip (Wanted.no rfl rfl rfl rfl rfl) rfl ?_
        refine RL.skip (Wanted.no rfl rfl rfl rfl rfl) rfl ?_
        refine RL.val (Wanted.free rfl) (V.pick_false rfl rfl rfl) rfl ?_
        refine RL.nil ?_
        refine SG.cond_false rfl ?_
        refine SG.exit rfl ?_
        refine SG.weaken (rest x ⟨hJ.exit (.inl (by omega)), hx1, hx2⟩) ?_ ?_
        · repeat (first | exact EnvLe.nil _ | refine EnvLe.cons rfl ?_)
        · repeat (first | exact Ent.refl _ | (apply Ent.cons; (· repeat (first | exact Pick.here | (refine Pick.sl ?_; (· repeat (first | exact List.Mem.head _ | assumption | apply List.Mem.tail))) | apply Pick.there))) | (refine Ent.trans (Ent.drop _ _) ?_))
  · skip
    refine RL.nil ?_
    refine SG.cond_false rfl ?_
    refine SG.exit rfl ?_
    refine SG.seq ?_
    refine SG.region ?_
    refine RL.val (Wanted.free rfl) (V.move rfl rfl) rfl ?_
    refine RL.val (Wanted.free rfl) (V.nilCheck rfl rfl) rfl ?_
    refine RL.val (Wanted.free rfl) (V.fieldAddr rfl rfl fo87_1) rfl ?_
    refine RL.eff (Wanted.free rfl) (E.store1 rfl rfl rfl rfl rfl sz4 (by repeat (first | exact Pick.here | assumption | apply Pick.there)) rfl) rfl ?_
    rintro _ _ rfl
    refine RL.nil ?_
    refine SG.region ?_
    refine RL.val (Wanted.free rfl) (V.move rfl rfl) rfl ?_
    refine RL.val (Wanted.free rfl) (V.nilCheck rfl rfl) rfl ?_
    refine RL.val (Wanted.free rfl) (V.fieldAddr rfl rfl fo87_2) rfl ?_
    refine RL.eff (Wanted.free rfl) (E.store1 rfl rfl rfl rfl rfl sz3 (by repeat (first | exact Pick.here | assumption | apply Pick.there)) rfl) rfl ?_
    rintro _ _ rfl
    refine RL.nil ?_
    obtain rfl : i = D.S.length := by omega
    rw [upTo_all (Nat.le_refl _), restart_mapIdx]
    refine SG.doneE (Ret.none Try.func50 rfl) ?_ ⟨rfl, rfl⟩
    refine RDsk.ent (ad := ad) (c := c) ?_
    rw [restart_len]
    repeat (first | exact Ent.refl _ | (apply Ent.cons; (· repeat (first | exact Pick.here | (refine Pick.sl ?_; (· repeat (first | exact List.Mem.head _ | assumption | apply List.Mem.tail))) | apply Pick.there))) | (refine Ent.trans (Ent.drop _ _) ?_))

end Go.Proofs.Yteghgfgkkpfcaaa
