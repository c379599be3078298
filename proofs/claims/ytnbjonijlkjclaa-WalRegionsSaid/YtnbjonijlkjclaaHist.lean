/- Acts. -/
import Derived.Test.YtnbjonijlkjclaaRefs4
namespace Go.Proofs.Ytnbjonijlkjclaa
open Go.Wk Go.Wl Go.Dsk

structure ActD where
  kind : Int
  n : Int
  b : List UInt8
def ActD.ok (o : ActD) : Prop := inInt o.kind ∧ inInt o.n
@[reducible] def ActD.cells (o : ActD) (x : Tri) : List Value := [vI o.kind, vI o.n, tv x]
def RAct : Rep ActD where
  sz := 3
  rep z cs o := ∃ x : Tri, cs = o.cells x ∧ o.ok ∧ SlP R8 x.1 x.2.1 x.2.2 o.b z
  mono h := fun ⟨x, e, k, s⟩ => ⟨x, e, k, s.mono h⟩
  len := fun ⟨_, e, _⟩ => by rw [e]; rfl
  one := fun ⟨_, e, _⟩ u hu => by rw [e] at hu; simp at hu; rcases hu with rfl | rfl | rfl <;> rfl
section
variable {P : Program} {f : FuncId} {n : Nat} {κ : World} {K : Post} {k : List Item} {al : List (Nat × Value)} {L : List Assn} {a : Option Addr} {m c : Nat} {l : List ActD}
theorem SG.elemAct {j : Nat} {y : ActD} (hm : Sl RAct a m c l ∈ L) (hy : l[j]? = some y)
    (h : ∀ (ab : Option Addr) (mb cb : Nat), y.ok → SG P f n κ K k al (Sl R8 ab mb cb y.b :: At a (j * 3) [vI y.kind, vI y.n, .slice ab mb cb] :: L)) : SG P f n κ K k al L :=
  SG.elemR (ι := Tri) (p := fun _ => y.ok) (us := fun x => y.cells x) (R := fun x => [SlP R8 x.1 x.2.1 x.2.2 y.b]) hm hy
    (fun z cs ⟨x, e, hok, s⟩ => ⟨x, hok, e, fun r hr => by simp at hr; subst hr; assumption⟩) fun x hok => h _ _ _ hok
end
set_option maxRecDepth 100000 in
set_option maxHeartbeats 1000000 in
theorem record_ok {κ : World} {L : List Assn} {o : ActD} {ab : Option Addr} {mb cb : Nat} {most : Int} (ho : o.ok) (h8 : Sl R8 ab mb cb o.b ∈ L) (hm0 : 0 ≤ most) (hm1 : most ≤ 1000000) :
    Ctr Try.prog 19 #[.agg [vI o.kind, vI o.n, .slice ab mb cb].toArray, vI most] κ L (fun v M => ∃ (a' : Option Addr) (c' : Nat) (rec : List UInt8), (rec.length : Int) ≤ most ∧ v = .slice a' rec.length c' ∧ M = Buf R8 5 a' rec.length c' rec :: L) := by
 refine Ctr.enter (vs := [.agg [vI o.kind, vI o.n, .slice ab mb cb].toArray, vI most]) (m := 39) Try.func19 rfl rfl rfl ?_
 refine SG.sl h8 fun hbl hbc hb63 => ?_
 obtain ⟨ho1, ho2⟩ := ho
 unfold inInt at ho1 ho2
 refine SG.seq ?_
 refine SG.region ?_
 refine RL.eff (Wanted.free rfl) (E.box [vI o.kind, vI o.n, .slice ab mb cb] rfl rfl rfl) rfl ?_
 rintro _ _ ⟨b2, rfl, rfl⟩
 refine RL.val (Wanted.free rfl) (V.assign rfl rfl) rfl ?_
 refine RL.nil ?_
 refine SG.seq ?_
 refine SG.region ?_
 refine RL.val (Wanted.free rfl) (V.fieldAddr rfl rfl fo42_1) rfl ?_
 refine RL.val (Wanted.free rfl) (V.load rfl on3 rfl pickX rfl) rfl ?_
 refine RL.val (Wanted.free rfl) (V.move rfl rfl) rfl ?_
 refine RL.val (Wanted.free rfl) (V.bin rfl rfl rfl (B.addI (by omega) (by omega))) rfl ?_
 refine RL.eff (Wanted.free rfl) (E.call rfl go9 rfl (around_ok _ _ ho2.1 ho2.2 (by omega))) rfl ?_
 rintro _ _ ⟨rfl, rfl⟩
 obtain ⟨q, hq, hq2⟩ := aroundV_nat (n := o.n) (most := most + 1) (by omega)
 rw [hq]
 refine RL.val (Wanted.free rfl) (V.assign rfl rfl) rfl ?_
 refine RL.nil ?_
 refine SG.seq ?_
 refine SG.region ?_
 refine RL.val (Wanted.free rfl) (V.assign rfl rfl) rfl ?_
 refine RL.nil ?_
 refine SG.seq ?_
 refine SG.seq ?_
 refine SG.ent (Buf.nil (T := R8) (e := 5)) ?_
 refine SG.region ?_
 refine RL.val (Wanted.free rfl) (V.assign rfl rfl) rfl ?_
 refine RL.nil ?_
 refine SG.block ?_
 refine SG.weaken (SG.loop2 (fun m0 al M => ∃ (rec : List UInt8) (a6 : Option Addr) (c6 : Nat), rec.length ≤ q ∧ m0 = q - rec.length ∧ al = [(2, ptr b2 0), (5, vI q), (6, .slice a6 rec.length c6), (7, vI rec.length)] ∧ M = Buf R8 5 a6 rec.length c6 rec :: Blk b2 42 [vI o.kind, vI o.n, .slice ab mb cb] :: L) (m0 := _) ⟨[], none, 0, Nat.zero_le _, rfl, rfl, rfl⟩ ?_) ?_ ?_
 rotate_left
 ·
  repeat (first | exact EnvLe.nil _ | refine EnvLe.cons rfl ?_)
 ·
  exact entX
 rintro _ _ _ ⟨rec, a6, c6, hi, rfl, rfl, rfl⟩ ih0
 obtain ⟨i, hil⟩ : ∃ i, rec.length = i := ⟨_, rfl⟩
 rw [hil] at hi ⊢
 refine SG.seq ?_
 refine SG.seq ?_
 refine SG.region ?_
 refine RL.val (Wanted.free rfl) (V.move rfl rfl) rfl ?_
 refine RL.val (Wanted.free rfl) (V.move rfl rfl) rfl ?_
 refine RL.cmp (Wanted.free rfl) (V.bin rfl rfl rfl B.lss) rfl (fun h13 => ?_) (fun h13 => ?_)
 ·
  refine RL.nil ?_
  refine SG.cond_true rfl ?_
  refine SG.skip ?_
  refine SG.seq ?_
  refine SG.block ?_
  refine SG.seq ?_
  refine SG.region ?_
  refine RL.val (Wanted.free rfl) (V.move rfl rfl) rfl ?_
  refine RL.val (Wanted.free rfl) (V.to8 rfl ⟨_, ui3⟩ ui5 rfl) rfl ?_
  refine RL.val (Wanted.free rfl) (V.assign rfl rfl) rfl ?_
  refine RL.nil ?_
  refine SG.seq ?_
  refine SG.seq ?_
  refine SG.region ?_
  refine RL.val (Wanted.free rfl) (V.fieldAddr rfl rfl fo42_2) rfl ?_
  refine RL.val (Wanted.free rfl) (V.load rfl on35 rfl pickX rfl) rfl ?_
  refine RL.val (Wanted.free rfl) (V.len rfl rfl el35.under rfl) rfl ?_
  refine RL.cmp (Wanted.free rfl) (V.bin rfl rfl rfl B.gtr) rfl (fun h20 => ?_) (fun h20 => ?_)
  ·
   refine RL.nil ?_
   refine SG.cond_true rfl ?_
   have hmb : 0 < mb := by omega
   have hlt : i % mb < mb := Nat.mod_lt _ hmb
   obtain ⟨y, hy⟩ : ∃ y, o.b[i % mb]? = some y := ⟨_, List.getElem?_eq_getElem (by omega)⟩
   refine SG.drawN 10 10 (Blk b2 42 [vI o.kind, vI o.n, .slice ab mb cb] :: L) wide rfl rfl (by repeat (first | exact Ent.refl _ | (apply Ent.cons; (· repeat (first | exact Pick.here | (refine Pick.sl ?_; (· repeat (first | exact List.Mem.head _ | assumption | apply List.Mem.tail))) | apply Pick.there))) | (refine Ent.trans (Ent.drop _ _) ?_))) ?_
   refine RH.val 0 rfl krX krX krX krX (Wanted.free rfl) (V.fieldAddr rfl rfl fo42_2) rfl ?_
   refine RH.val 1 rfl krX krX krX krX (Wanted.free rfl) (V.load rfl on35 rfl pickX rfl) rfl ?_
   refine RH.val 2 rfl krX krX krX krX (Wanted.free rfl) (V.move rfl rfl) rfl ?_
   refine RH.val 3 rfl krX krX krX krX (Wanted.free rfl) (V.fieldAddr rfl rfl fo42_2) rfl ?_
   refine RH.val 4 rfl krX krX krX krX (Wanted.free rfl) (V.load rfl on35 rfl pickX rfl) rfl ?_
   refine RH.val 5 rfl krX krX krX krX (Wanted.free rfl) (V.len rfl rfl el35.under rfl) rfl ?_
   refine RH.val 6 rfl krX krX krX krX (Wanted.free rfl) (V.bin rfl rfl rfl (B.remI (by omega) (by omega))) rfl ?_
   rw [show (i : Int) % (mb : Int) = ((i % mb : Nat) : Int) from rfl]
   refine RH.val 7 rfl krX krX krX krX (Wanted.free rfl) (V.indexSl (j := (i % mb)) rfl el35.slice rfl rfl memX (by first | rfl | omega) (by rw [hbl]; exact hlt)) rfl ?_
   refine RH.val 8 rfl krX krX krX krX (Wanted.free rfl) (V.loadSc rfl on5 rfl memX hy) rfl ?_
   refine RH.val 9 rfl krX krX krX krX (Wanted.free rfl) (V.assign rfl rfl) rfl ?_
   refine RH.done krX ?_
   refine SG.region ?_
   refine RL.val (Wanted.free rfl) (V.move rfl rfl) rfl ?_
   refine RL.val (Wanted.free rfl) (V.move rfl rfl) rfl ?_
   refine RL.eff (Wanted.free rfl) (E.lit1 _ rfl el35.slice ze5 rfl (by decide) (by decide) rfl rfl rfl) rfl ?_
   rintro _ _ ⟨b33, rfl, rfl⟩
   refine RL.eff (Wanted.free rfl) (E.append (T := R8) rfl rfl rfl el35 el35.noInt rfl rfl pickX (Src.lit (x := y) pickX (by first | trivial | assumption | omega)) (by first | omega | (simp; omega)) (by first | omega | (simp; omega))) rfl ?_
   intro _ _ hK34
   try rw [List.nil_append] at hK34
   try rw [Nat.zero_add] at hK34
   obtain ⟨a37, c37, rfl, rfl⟩ := hK34
   refine RL.val (Wanted.free rfl) (V.assign rfl rfl) rfl ?_
   refine RL.nil ?_
   refine SG.inBlock ?_
   refine SG.region ?_
   refine RL.val (Wanted.free rfl) (V.move rfl rfl) rfl ?_
   refine RL.val (Wanted.free rfl) (V.bin rfl rfl rfl (B.addI (by omega) (by omega))) rfl ?_
   refine RL.val (Wanted.free rfl) (V.assign rfl rfl) rfl ?_
   refine RL.nil ?_
   refine SG.weaken (ih0 _ _ _ ?_ ⟨rec ++ [y], a37, c37, by rw [List.length_append, List.length_singleton]; omega, rfl, rfl, rfl⟩) ?_ ?_
   ·
    rw [List.length_append, List.length_singleton]; omega
   ·
    rw [List.length_append, List.length_singleton, hil]
    repeat (first | exact EnvLe.nil _ | refine EnvLe.cons rfl ?_)
   ·
    rw [List.length_append, List.length_singleton, hil]
    exact entX
  ·
   refine RL.nil ?_
   refine SG.cond_false rfl ?_
   refine SG.skip ?_
   refine SG.region ?_
   refine RL.val (Wanted.free rfl) (V.move rfl rfl) rfl ?_
   refine RL.val (Wanted.free rfl) (V.move rfl rfl) rfl ?_
   refine RL.eff (Wanted.free rfl) (E.lit1 _ rfl el35.slice ze5 rfl (by decide) (by decide) rfl rfl rfl) rfl ?_
   rintro _ _ ⟨b41, rfl, rfl⟩
   refine RL.eff (Wanted.free rfl) (E.append (T := R8) rfl rfl rfl el35 el35.noInt rfl rfl pickX (Src.lit (x := (UInt8.ofNat ((i : Int) % 256).toNat)) pickX (by first | trivial | assumption | omega)) (by first | omega | (simp; omega)) (by first | omega | (simp; omega))) rfl ?_
   intro _ _ hK42
   try rw [List.nil_append] at hK42
   try rw [Nat.zero_add] at hK42
   obtain ⟨a37, c37, rfl, rfl⟩ := hK42
   refine RL.val (Wanted.free rfl) (V.assign rfl rfl) rfl ?_
   refine RL.nil ?_
   refine SG.inBlock ?_
   refine SG.region ?_
   refine RL.val (Wanted.free rfl) (V.move rfl rfl) rfl ?_
   refine RL.val (Wanted.free rfl) (V.bin rfl rfl rfl (B.addI (by omega) (by omega))) rfl ?_
   refine RL.val (Wanted.free rfl) (V.assign rfl rfl) rfl ?_
   refine RL.nil ?_
   refine SG.weaken (ih0 _ _ _ ?_ ⟨rec ++ [(UInt8.ofNat ((i : Int) % 256).toNat)], a37, c37, by rw [List.length_append, List.length_singleton]; omega, rfl, rfl, rfl⟩) ?_ ?_
   ·
    rw [List.length_append, List.length_singleton]; omega
   ·
    rw [List.length_append, List.length_singleton, hil]
    repeat (first | exact EnvLe.nil _ | refine EnvLe.cons rfl ?_)
   ·
    rw [List.length_append, List.length_singleton, hil]
    exact entX
 ·
  refine RL.nil ?_
  refine SG.cond_false rfl ?_
  refine SG.exit rfl ?_
  refine SG.seq ?_
  refine SG.region ?_
  refine RL.val (Wanted.free rfl) (V.move rfl rfl) rfl ?_
  refine RL.val (Wanted.free rfl) (V.assign rfl rfl) rfl ?_
  refine RL.nil ?_
  obtain ⟨rfl⟩ : i = rec.length := hil.symm
  refine SG.retE (Ret.r1 Try.func19 rfl (.tmp rfl)) ?_ ⟨_, _, rec, by omega, rfl, rfl⟩
  exact entX

set_option maxRecDepth 100000 in
set_option maxHeartbeats 1000000 in
theorem agrees_ok {κ : World} {L : List Assn} {L1 L2 : List Assn} {b db : Nat} {g : Lg} {n s : Int} {wa : Option Addr} {wn wc : Nat} (hg : Go.Wl.Good g) (hn : g.n = n) (hs : s ≤ g.synced) (hp : Pick (Lgm b db g) L L1) (hw : Pick (Buf (Rep.slice R8) 35 wa wn wc g.recs) L1 L2) :
    Ctr Try.prog 18 #[ptr b 0, vI n, .slice wa wn wc, vI s] κ L (fun v M => v = vB true ∧ M = Lgm b db g :: Buf (Rep.slice R8) 35 wa wn wc g.recs :: L2) := by
 refine Ctr.enter (vs := [ptr b 0, vI n, .slice wa wn wc, vI s]) (m := 34) Try.func18 rfl rfl rfl ?_
 have hok := hg.ok
 have hgf := hg.fit
 have hgn := hg.n1
 have hgn0 := hg.n0
 have hgs1 := hg.s1
 have hgs0 := hg.s0
 refine SG.ent (hp.trans (Ent.frame _ hw)) ?_
 refine SG.buf (T := Rep.slice R8) (a := wa) pickX fun hwl _ _ => ?_
 rw [hn] at hgn hgn0 hgf
 have hre : roomV g = roomR n g.recs := by rw [room_eq hg, hn]
 refine SG.seq ?_
 refine SG.region ?_
 refine RL.val (Wanted.free rfl) (V.assign rfl rfl) rfl ?_
 refine RL.nil ?_
 refine SG.seq ?_
 refine SG.region ?_
 refine RL.val (Wanted.free rfl) (V.move rfl rfl) rfl ?_
 refine RL.eff (Wanted.free rfl) (E.call rfl go29 rfl (lRecs_ok hok (b := b) pickX (fun r hr => by have := hg.each r hr; omega))) rfl ?_
 rintro _ _ ⟨a10, c10, rfl, rfl⟩
 refine RL.val (Wanted.free rfl) (V.move rfl rfl) rfl ?_
 refine RL.eff (Wanted.free rfl) (E.call rfl go28 rfl (sames_rd (a := a10) (l := g.recs) (l' := g.recs) (by first | (apply Seen.sl; (· repeat (first | exact List.Mem.head _ | assumption | apply List.Mem.tail))) | (apply Seen.buf; (· repeat (first | exact Pick.here | apply Pick.there)))) (by first | (apply Seen.sl; (· repeat (first | exact List.Mem.head _ | assumption | apply List.Mem.tail))) | (apply Seen.buf; (· repeat (first | exact Pick.here | apply Pick.there)))))) rfl ?_
 rintro _ _ ⟨rfl, rfl⟩
 rw [decide_eq_true (rfl : g.recs = g.recs)]
 refine RL.val (Wanted.free rfl) (V.move rfl rfl) rfl ?_
 refine RL.val (Wanted.yes rfl rfl rfl rfl) (V.move rfl rfl) rfl ?_
 refine RL.eff (Wanted.yes rfl rfl rfl rfl) (E.call rfl go48 rfl (lSynced_ok hok (b := b) pickX)) rfl ?_
 rintro _ _ ⟨rfl, rfl⟩
 refine RL.val (Wanted.yes rfl rfl rfl rfl) (V.move rfl rfl) rfl ?_
 refine RL.cmpT (Wanted.yes rfl rfl rfl rfl) (V.bin rfl rfl rfl B.geq) rfl (by omega) ?_
 refine RL.val (Wanted.free rfl) (V.pick_true rfl rfl rfl) rfl ?_
 refine RL.val (Wanted.free rfl) (V.move rfl rfl) rfl ?_
 refine RL.val (Wanted.yes rfl rfl rfl rfl) (V.move rfl rfl) rfl ?_
 refine RL.eff (Wanted.yes rfl rfl rfl rfl) (E.call rfl go48 rfl (lSynced_ok hok (b := b) pickX)) rfl ?_
 rintro _ _ ⟨rfl, rfl⟩
 refine RL.val (Wanted.yes rfl rfl rfl rfl) (V.move rfl rfl) rfl ?_
 refine RL.val (Wanted.yes rfl rfl rfl rfl) (V.len rfl rfl el39.under rfl) rfl ?_
 refine RL.cmpT (Wanted.yes rfl rfl rfl rfl) (V.bin rfl rfl rfl B.leq) rfl (by omega) ?_
 refine RL.val (Wanted.free rfl) (V.pick_true rfl rfl rfl) rfl ?_
 refine RL.val (Wanted.free rfl) (V.move rfl rfl) rfl ?_
 refine RL.val (Wanted.yes rfl rfl rfl rfl) (V.move rfl rfl) rfl ?_
 refine RL.eff (Wanted.yes rfl rfl rfl rfl) (E.call rfl go24 rfl (lRoom_ok hok (b := b) pickX)) rfl ?_
 rintro _ _ ⟨rfl, rfl⟩
 refine RL.val (Wanted.yes rfl rfl rfl rfl) (V.move rfl rfl) rfl ?_
 refine RL.val (Wanted.yes rfl rfl rfl rfl) (V.move rfl rfl) rfl ?_
 refine RL.eff (Wanted.yes rfl rfl rfl rfl) (E.call rfl go26 rfl (room_rd (l := g.recs) (n := n) (by omega) (by omega) (by omega) (by first | (apply Seen.sl; (· repeat (first | exact List.Mem.head _ | assumption | apply List.Mem.tail))) | (apply Seen.buf; (· repeat (first | exact Pick.here | apply Pick.there)))))) rfl ?_
 rintro _ _ ⟨rfl, rfl⟩
 refine RL.cmpT (Wanted.yes rfl rfl rfl rfl) (V.bin rfl rfl rfl B.eql) rfl (by rw [hre]) ?_
 refine RL.val (Wanted.free rfl) (V.pick_true rfl rfl rfl) rfl ?_
 refine RL.val (Wanted.free rfl) (V.assign rfl rfl) rfl ?_
 refine RL.nil ?_
 refine SG.retE (Ret.r1 Try.func18 rfl (.tmp rfl)) ?_ ⟨rfl, rfl⟩
 exact entX

end Go.Proofs.Ytnbjonijlkjclaa
