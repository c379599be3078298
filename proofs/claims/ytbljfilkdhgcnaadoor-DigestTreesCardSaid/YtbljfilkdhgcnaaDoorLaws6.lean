/- The law DigestTrees. -/
import Derived.Test.YtbljfilkdhgcnaaDoorRest2
import Derived.Test.YtbljfilkdhgcnaaDoorLives
import Derived.Test.YtbljfilkdhgcnaaDoorRest1
namespace Go.Proofs.YtbljfilkdhgcnaaDoor
open Go.Wk Go.Sha

attribute [local irreducible] Go.Sha.tail Go.Sha.feed Go.Sha.sum
theorem SG.freeze8 {P : Program} {f : FuncId} {n : Nat} {κ : World} {K : Post} {k : List Item} {L L1 : List Assn} {al : List (Nat × Value)} {b E : Nat} {x : List UInt8} (hp : Pick (Blk b E (x.map v8)) L L1) (hx : x.length = 32) (h : SG P f n κ K k al (Sl R8 (some ⟨b, 0, none⟩) 32 32 x :: At (some ⟨b, 0, none⟩) 0 (x.map v8) :: L1)) : SG P f n κ K k al L := by
  refine SG.sep ⟨Blk.publish (E := E) (cs := x.map v8) (R := fun z => ∃ b' o, (some ⟨b, 0, none⟩ : Option Addr) = some ⟨b', o, none⟩ ∧ Row z b' (o + 0) (x.map v8)) (fun h => h.ent hp) (fun z hz => ⟨b, 0, rfl, hz⟩), ?_⟩
  refine SG.ent (Ent.ro_mk (R' := SlP R8 (some ⟨b, 0, none⟩) 32 32 x) (List.Mem.head _) ?_) h
  rintro z ⟨b', o, e, hr⟩
  cases e
  exact ⟨hx, Nat.le_refl _, by decide, .inr ⟨b, 0, x.map v8, rfl, hr, rows_sc.2 ⟨rfl, fun _ _ => trivial⟩⟩⟩

set_option maxRecDepth 100000 in
set_option maxHeartbeats 1000000 in
theorem trees_law {κ : World} {L : List Assn} {a : Option Addr} {n c : Nat} {l x y : List UInt8} (hm : Sl R8 a n c l ∈ L) (hT : Tab L) (hb : l.length ≤ 140737488355000) (hx : x.length = 32) (hy : y.length = 32) :
    Ctr Tryd.prog 9 #[.slice a n c, .agg (x.map v8).toArray, .agg (y.map v8).toArray] κ L (fun v M => v = vB true ∧ M = L) := by
  refine Ctr.enter (vs := [.slice a n c, .agg (x.map v8).toArray, .agg (y.map v8).toArray]) (m := 57) Tryd.func9 rfl rfl rfl ?_
  unfold Tab at hT
  refine SG.ent (slX _) ?_
  refine SG.seq ?_
  refine SG.region ?_
  refine RL.eff (Wanted.free rfl) (E.box _ rfl rfl rfl) rfl ?_
  rintro _ _ ⟨b4, rfl, rfl⟩
  refine RL.eff (Wanted.free rfl) (E.box _ rfl rfl rfl) rfl ?_
  rintro _ _ ⟨b5, rfl, rfl⟩
  refine RL.val (Wanted.free rfl) (V.assign rfl rfl) rfl ?_
  refine RL.nil ?_
  refine SG.seq ?_
  refine SG.freeze8 (b := b4) (by repeat (first | exact Pick.here | assumption | apply Pick.there)) hx ?_
  refine SG.freeze8 (b := b5) (by repeat (first | exact Pick.here | assumption | apply Pick.there)) hy ?_
  refine SG.region ?_
  refine RL.eff (Wanted.free rfl) (E.call rfl go18 rfl (newX_ok)) rfl ?_
  rintro _ _ ⟨rfl, rfl⟩
  refine RL.eff (Wanted.free rfl) (E.lit1 [.int .u8 0] rfl el22.slice ze5 rfl (by decide) (by decide) rfl rfl rfl) rfl ?_
  rintro _ _ ⟨b12, rfl, rfl⟩
  refine RL.ent (Buf.lit1' (T := R8) (b := b12) (e := 5) (y := 0) Pick.here rfl (fun _ => ⟨rfl, trivial⟩)) ?_
  refine RL.publish (T := R8) (a := some ⟨b12, 0, none⟩) Pick.here ?_
  refine RL.eff (Wanted.free rfl) (E.call rfl go17 rfl (writeX_ok (X := []) (b := [0]) (by repeat (first | exact List.Mem.head _ | assumption | apply List.Mem.tail)) (by repeat (first | exact List.Mem.head _ | assumption | apply List.Mem.tail)) (by unfold Tab; repeat (first | exact List.Mem.head _ | assumption | apply List.Mem.tail)) (by first | omega | (simp; done) | (simp; omega)) (by first | omega | (simp; done) | (simp; omega)))) rfl ?_
  rintro _ _ ⟨a13, c13, rfl, rfl⟩
  rw [List.nil_append]
  refine RL.val (Wanted.free rfl) (V.move rfl rfl) rfl ?_
  refine RL.eff (Wanted.free rfl) (E.call rfl go17 rfl (writeX_ok (X := [0]) (b := l) (by repeat (first | exact List.Mem.head _ | assumption | apply List.Mem.tail)) (by repeat (first | exact List.Mem.head _ | assumption | apply List.Mem.tail)) (by unfold Tab; repeat (first | exact List.Mem.head _ | assumption | apply List.Mem.tail)) (by first | omega | (simp; done) | (simp; omega)) (by first | omega | (simp; done) | (simp; omega)))) rfl ?_
  rintro _ _ ⟨a15, c15, rfl, rfl⟩
  refine RL.eff (Wanted.free rfl) (E.alloc rfl ze33) rfl ?_
  rintro _ _ ⟨b7, rfl, rfl⟩
  refine RL.eff (Wanted.free rfl) (E.storeWhole rfl rfl rfl (dg_len (feed_length _ _ first_length)) sz33 (by repeat (first | exact Pick.here | assumption | apply Pick.there)) (dg_one rfl rfl) (by first | rfl | (rw [dg_len (feed_length _ _ first_length)]))) rfl ?_
  rintro _ _ rfl
  refine RL.nil ?_
  refine SG.seq ?_
  refine SG.join (ι := Nat × Option Addr × Nat) (fun ⟨b8, a22, c22⟩ => [(0, .slice a n c), (4, ptr b4 0), (5, ptr b5 0), (7, ptr b7 0), (8, ptr b8 0)]) (fun ⟨b8, a22, c22⟩ => Blk b8 33 (dg (feed first ([1] ++ x ++ y)) (.slice a22 (tail ([1] ++ x ++ y)).length c22) (vI ((([1] ++ x ++ y).length : Nat) : Int))) :: Blk b7 33 (dg (feed first ([0] ++ l)) (.slice a15 (tail ([0] ++ l)).length c15) (vI ((([0] ++ l).length : Nat) : Int))) :: Sl R8 a22 (tail ([1] ++ x ++ y)).length c22 (tail ([1] ++ x ++ y)) :: Sl R8 a15 (tail ([0] ++ l)).length c15 (tail ([0] ++ l)) :: At (some ⟨b4, 0, none⟩) 0 (x.map v8) :: At (some ⟨b5, 0, none⟩) 0 (y.map v8) :: L) (fun ⟨b8, a22, c22⟩ => True) ?_ (fun rest => ?_)
  · rintro ⟨b8, a22, c22⟩ _
    try dsimp only
    refine SG.seq ?_
    refine SG.region ?_
    refine RL.val (Wanted.free rfl) (V.move rfl rfl) rfl ?_
    refine RL.eff (Wanted.free rfl) (E.call rfl go25 rfl (leaf_ok (l := l) (by repeat (first | exact List.Mem.head _ | assumption | apply List.Mem.tail)) (by unfold Tab; repeat (first | exact List.Mem.head _ | assumption | apply List.Mem.tail)) (by omega))) rfl ?_
    rintro _ _ ⟨rfl, rfl⟩
    refine RL.val (Wanted.free rfl) (V.move rfl rfl) rfl ?_
    refine RL.eff (Wanted.free rfl) (E.call rfl go26 rfl (rleaf_ok (l := l) (by repeat (first | exact List.Mem.head _ | assumption | apply List.Mem.tail)) hb)) rfl ?_
    rintro _ _ ⟨rfl, rfl⟩
    refine RL.cmpT (Wanted.free rfl) (V.eqlArr rfl ar24 on5 ui5 ce24 eg24 inj8 (sum_length _) (sum_length _) rfl rfl) rfl rfl ?_
    refine RL.val (Wanted.free rfl) (V.move rfl rfl) rfl ?_
    refine RL.val (Wanted.yes rfl rfl rfl rfl) (V.loadAgg rfl ag33 rfl (by repeat (first | exact Pick.here | assumption | apply Pick.there)) (dg_all (feed_length _ _ first_length)) (dg_len (feed_length _ _ first_length))) rfl ?_
    refine RL.eff (Wanted.yes rfl rfl rfl rfl) (E.call rfl go22 rfl (closeX_ok (X := ([0] ++ l)) (by repeat (first | exact List.Mem.head _ | assumption | apply List.Mem.tail)) (by unfold Tab; repeat (first | exact List.Mem.head _ | assumption | apply List.Mem.tail)) (by first | omega | (simp; done) | (simp; omega)))) rfl ?_
    rintro _ _ ⟨rfl, rfl⟩
    refine RL.val (Wanted.yes rfl rfl rfl rfl) (V.move rfl rfl) rfl ?_
    refine RL.eff (Wanted.yes rfl rfl rfl rfl) (E.call rfl go25 rfl (leaf_ok (l := l) (by repeat (first | exact List.Mem.head _ | assumption | apply List.Mem.tail)) (by unfold Tab; repeat (first | exact List.Mem.head _ | assumption | apply List.Mem.tail)) (by omega))) rfl ?_
    rintro _ _ ⟨rfl, rfl⟩
    refine RL.cmpT (Wanted.yes rfl rfl rfl rfl) (V.eqlArr rfl ar24 on5 ui5 ce24 eg24 inj8 (sum_length _) (sum_length _) rfl rfl) rfl rfl ?_
    refine RL.val (Wanted.free rfl) (V.pick_true rfl rfl rfl) rfl ?_
    refine RL.val (Wanted.free rfl) (V.assign rfl rfl) rfl ?_
    refine RL.nil ?_
    refine SG.seq ?_
    refine SG.drawL 16 16 wide rfl rfl ?_
    refine RH.val 0 rfl (by kernel_rfl) (by kernel_rfl) (by kernel_rfl) (by kernel_rfl) (Wanted.free rfl) (V.loadAt (a := (some ⟨b4, 0, none⟩)) (k := 0) rfl ag24 rfl (by repeat (first | exact List.Mem.head _ | assumption | apply List.Mem.tail)) (by rw [List.length_map]; exact hx)) rfl ?_
    refine RH.val 1 rfl (by kernel_rfl) (by kernel_rfl) (by kernel_rfl) (by kernel_rfl) (Wanted.free rfl) (V.loadAt (a := (some ⟨b5, 0, none⟩)) (k := 0) rfl ag24 rfl (by repeat (first | exact List.Mem.head _ | assumption | apply List.Mem.tail)) (by rw [List.length_map]; exact hy)) rfl ?_
    refine RH.val 3 rfl (by kernel_rfl) (by kernel_rfl) (by kernel_rfl) (by kernel_rfl) (Wanted.free rfl) (V.loadAt (a := (some ⟨b4, 0, none⟩)) (k := 0) rfl ag24 rfl (by repeat (first | exact List.Mem.head _ | assumption | apply List.Mem.tail)) (by rw [List.length_map]; exact hx)) rfl ?_
    refine RH.val 4 rfl (by kernel_rfl) (by kernel_rfl) (by kernel_rfl) (by kernel_rfl) (Wanted.free rfl) (V.loadAt (a := (some ⟨b5, 0, none⟩)) (k := 0) rfl ag24 rfl (by repeat (first | exact List.Mem.head _ | assumption | apply List.Mem.tail)) (by rw [List.length_map]; exact hy)) rfl ?_
    refine RH.one (i := 2) (by kernel_rfl) ?_
    refine RHone.eff rfl (Wanted.free rfl) (E.call rfl go27 rfl (node_ok hx hy (by unfold Tab; repeat (first | exact List.Mem.head _ | assumption | apply List.Mem.tail)))) rfl ?_
    rintro _ _ ⟨rfl, rfl⟩
    refine ⟨.inr (by repeat (first | exact Ent.refl _ | (apply Ent.cons; (· repeat (first | exact Pick.here | (refine Pick.sl ?_; (· repeat (first | exact List.Mem.head _ | assumption | apply List.Mem.tail))) | apply Pick.there))) | (refine Ent.trans (Ent.drop _ _) ?_))), ?_⟩
    refine RH.one (i := 5) (by kernel_rfl) ?_
    refine RHone.eff rfl (Wanted.free rfl) (E.call rfl go28 rfl (rnode_ok hx hy)) rfl ?_
    rintro _ _ ⟨rfl, rfl⟩
    refine ⟨.inr (by repeat (first | exact Ent.refl _ | (apply Ent.cons; (· repeat (first | exact Pick.here | (refine Pick.sl ?_; (· repeat (first | exact List.Mem.head _ | assumption | apply List.Mem.tail))) | apply Pick.there))) | (refine Ent.trans (Ent.drop _ _) ?_))), ?_⟩
    refine RH.cmpT 6 rfl (by kernel_rfl) (by kernel_rfl) (by kernel_rfl) (by kernel_rfl) (Wanted.free rfl) (V.eqlArr rfl ar24 on5 ui5 ce24 eg24 inj8 (sum_length _) (sum_length _) rfl rfl) rfl rfl ?_
    refine RH.val 7 rfl (by kernel_rfl) (by kernel_rfl) (by kernel_rfl) (by kernel_rfl) (Wanted.free rfl) (V.move rfl rfl) rfl ?_
    refine RH.val 8 rfl (by kernel_rfl) (by kernel_rfl) (by kernel_rfl) (by kernel_rfl) (Wanted.yes rfl rfl rfl rfl) (V.loadAgg rfl ag33 rfl (by repeat (first | exact Pick.here | assumption | apply Pick.there)) (dg_all (feed_length _ _ first_length)) (dg_len (feed_length _ _ first_length))) rfl ?_
    refine RH.val 10 rfl (by kernel_rfl) (by kernel_rfl) (by kernel_rfl) (by kernel_rfl) (Wanted.yes rfl rfl rfl rfl) (V.loadAt (a := (some ⟨b4, 0, none⟩)) (k := 0) rfl ag24 rfl (by repeat (first | exact List.Mem.head _ | assumption | apply List.Mem.tail)) (by rw [List.length_map]; exact hx)) rfl ?_
    refine RH.val 11 rfl (by kernel_rfl) (by kernel_rfl) (by kernel_rfl) (by kernel_rfl) (Wanted.yes rfl rfl rfl rfl) (V.loadAt (a := (some ⟨b5, 0, none⟩)) (k := 0) rfl ag24 rfl (by repeat (first | exact List.Mem.head _ | assumption | apply List.Mem.tail)) (by rw [List.length_map]; exact hy)) rfl ?_
    refine RH.one (i := 9) (by kernel_rfl) ?_
    refine RHone.eff rfl (Wanted.yes rfl rfl rfl rfl) (E.call rfl go22 rfl (closeX_ok (X := ([1] ++ x ++ y)) (by repeat (first | exact List.Mem.head _ | assumption | apply List.Mem.tail)) (by unfold Tab; repeat (first | exact List.Mem.head _ | assumption | apply List.Mem.tail)) (by first | omega | (simp; done) | (simp; omega)))) rfl ?_
    rintro _ _ ⟨rfl, rfl⟩
    refine ⟨.inr (by repeat (first | exact Ent.refl _ | (apply Ent.cons; (· repeat (first | exact Pick.here | (refine Pick.sl ?_; (· repeat (first | exact List.Mem.head _ | assumption | apply List.Mem.tail))) | apply Pick.there))) | (refine Ent.trans (Ent.drop _ _) ?_))), ?_⟩
    refine RH.one (i := 12) (by kernel_rfl) ?_
    refine RHone.eff rfl (Wanted.yes rfl rfl rfl rfl) (E.call rfl go27 rfl (node_ok hx hy (by unfold Tab; repeat (first | exact List.Mem.head _ | assumption | apply List.Mem.tail)))) rfl ?_
    rintro _ _ ⟨rfl, rfl⟩
    refine ⟨.inr (by repeat (first | exact Ent.refl _ | (apply Ent.cons; (· repeat (first | exact Pick.here | (refine Pick.sl ?_; (· repeat (first | exact List.Mem.head _ | assumption | apply List.Mem.tail))) | apply Pick.there))) | (refine Ent.trans (Ent.drop _ _) ?_))), ?_⟩
    refine RH.cmpT 13 rfl (by kernel_rfl) (by kernel_rfl) (by kernel_rfl) (by kernel_rfl) (Wanted.yes rfl rfl rfl rfl) (V.eqlArr rfl ar24 on5 ui5 ce24 eg24 inj8 (sum_length _) (sum_length _) rfl rfl) rfl rfl ?_
    refine RH.pure 14 rfl (by kernel_rfl) (by kernel_rfl) (by kernel_rfl) (by kernel_rfl) (Wanted.free rfl) (V.pick_true rfl rfl rfl) rfl ?_
    refine RH.val 15 rfl (by kernel_rfl) (by kernel_rfl) (by kernel_rfl) (by kernel_rfl) (Wanted.free rfl) (V.assign rfl rfl) rfl ?_
    refine RH.done (by kernel_rfl) ?_
    refine SG.seq ?_
    refine SG.region ?_
    refine RL.val (Wanted.free rfl) (V.move rfl rfl) rfl ?_
    refine RL.val (Wanted.free rfl) (V.move rfl rfl) rfl ?_
    refine RL.val (Wanted.yes rfl rfl rfl rfl) (V.move rfl rfl) rfl ?_
    refine RL.val (Wanted.free rfl) (V.pick_true rfl rfl rfl) rfl ?_
    refine RL.val (Wanted.free rfl) (V.move rfl rfl) rfl ?_
    refine RL.eff (Wanted.yes rfl rfl rfl rfl) (E.call rfl go14 rfl (lives_ok (by unfold Tab; repeat (first | exact List.Mem.head _ | assumption | apply List.Mem.tail)))) rfl ?_
    rintro _ _ ⟨rfl, rfl⟩
    refine RL.val (Wanted.free rfl) (V.pick_true rfl rfl rfl) rfl ?_
    refine RL.val (Wanted.free rfl) (V.assign rfl rfl) rfl ?_
    refine RL.nil ?_
    refine SG.retE (Ret.r1 Tryd.func9 rfl (.tmp rfl)) ?_ ⟨rfl, rfl⟩
    repeat (first | exact Ent.refl _ | (apply Ent.cons; (· repeat (first | exact Pick.here | (refine Pick.sl ?_; (· repeat (first | exact List.Mem.head _ | assumption | apply List.Mem.tail))) | apply Pick.there))) | (refine Ent.trans (Ent.drop _ _) ?_))
  · skip
    refine SG.drawL 9 8 wide rfl rfl ?_
    refine RH.val 3 rfl (by kernel_rfl) (by kernel_rfl) (by kernel_rfl) (by kernel_rfl) (Wanted.free rfl) (V.sliceArr rfl ar24 rfl rfl rfl rfl (by omega) (by omega)) rfl ?_
    refine RH.val 5 rfl (by kernel_rfl) (by kernel_rfl) (by kernel_rfl) (by kernel_rfl) (Wanted.free rfl) (V.sliceArr rfl ar24 rfl rfl rfl rfl (by omega) (by omega)) rfl ?_
    refine RH.three (i := 0) (j := 1) (l := 7) (by kernel_rfl) ?_ ?_ ?_
    · skip
      refine RHone.eff rfl (Wanted.free rfl) (E.call rfl go18 rfl (newX_ok)) rfl ?_
      rintro _ _ ⟨rfl, rfl⟩
      refine ⟨.inr (by repeat (first | exact Ent.refl _ | (apply Ent.cons; (· repeat (first | exact Pick.here | (refine Pick.sl ?_; (· repeat (first | exact List.Mem.head _ | assumption | apply List.Mem.tail))) | apply Pick.there))) | (refine Ent.trans (Ent.drop _ _) ?_))), ?_⟩
      refine RH.two (i := 1) (j := 7) (by kernel_rfl) ?_ ?_
      · skip
        refine RHone.eff rfl (Wanted.free rfl) (E.lit1 [.int .u8 1] rfl el22.slice ze5 rfl (by decide) (by decide) rfl rfl rfl) rfl ?_
        rintro _ _ ⟨b17, rfl, rfl⟩
        refine ⟨.inr (by repeat (first | exact Ent.refl _ | (apply Ent.cons; (· repeat (first | exact Pick.here | (refine Pick.sl ?_; (· repeat (first | exact List.Mem.head _ | assumption | apply List.Mem.tail))) | apply Pick.there))) | (refine Ent.trans (Ent.drop _ _) ?_))), ?_⟩
        refine RH.ent (Buf.lit1' (T := R8) (b := b17) (e := 5) (y := 1) Pick.here rfl (fun _ => ⟨rfl, trivial⟩)) ?_
        refine RH.publish (T := R8) (a := some ⟨b17, 0, none⟩) Pick.here ?_
        refine RH.two (i := 2) (j := 7) (by kernel_rfl) ?_ ?_
        · skip
          refine RHone.eff rfl (Wanted.free rfl) (E.call rfl go17 rfl (writeX_ok (X := []) (b := [1]) (by repeat (first | exact List.Mem.head _ | assumption | apply List.Mem.tail)) (by repeat (first | exact List.Mem.head _ | assumption | apply List.Mem.tail)) (by unfold Tab; repeat (first | exact List.Mem.head _ | assumption | apply List.Mem.tail)) (by first | omega | (simp; done) | (simp; omega)) (by first | omega | (simp; done) | (simp; omega)))) rfl ?_
          rintro _ _ ⟨a18, c18, rfl, rfl⟩
          refine ⟨.inr (by repeat (first | exact Ent.refl _ | (apply Ent.cons; (· repeat (first | exact Pick.here | (refine Pick.sl ?_; (· repeat (first | exact List.Mem.head _ | assumption | apply List.Mem.tail))) | apply Pick.there))) | (refine Ent.trans (Ent.drop _ _) ?_))), ?_⟩
          rw [List.nil_append]
          refine RH.two (i := 4) (j := 7) (by kernel_rfl) ?_ ?_
          · skip
            refine RHone.eff rfl (Wanted.free rfl) (E.call rfl go17 rfl (writeX_ok (X := [1]) (b := x) (by repeat (first | exact List.Mem.head _ | assumption | apply List.Mem.tail)) (by repeat (first | exact List.Mem.head _ | assumption | apply List.Mem.tail)) (by unfold Tab; repeat (first | exact List.Mem.head _ | assumption | apply List.Mem.tail)) (by first | omega | (simp; done) | (simp; omega)) (by first | omega | (simp; done) | (simp; omega)))) rfl ?_
            rintro _ _ ⟨a20, c20, rfl, rfl⟩
            refine ⟨.inr (by repeat (first | exact Ent.refl _ | (apply Ent.cons; (· repeat (first | exact Pick.here | (refine Pick.sl ?_; (· repeat (first | exact List.Mem.head _ | assumption | apply List.Mem.tail))) | apply Pick.there))) | (refine Ent.trans (Ent.drop _ _) ?_))), ?_⟩
            refine RH.two (i := 6) (j := 7) (by kernel_rfl) ?_ ?_
            · skip
              refine RHone.eff rfl (Wanted.free rfl) (E.call rfl go17 rfl (writeX_ok (X := ([1] ++ x)) (b := y) (by repeat (first | exact List.Mem.head _ | assumption | apply List.Mem.tail)) (by repeat (first | exact List.Mem.head _ | assumption | apply List.Mem.tail)) (by unfold Tab; repeat (first | exact List.Mem.head _ | assumption | apply List.Mem.tail)) (by first | omega | (simp; done) | (simp; omega)) (by first | omega | (simp; done) | (simp; omega)))) rfl ?_
              rintro _ _ ⟨a22, c22, rfl, rfl⟩
              refine ⟨.inr (by repeat (first | exact Ent.refl _ | (apply Ent.cons; (· repeat (first | exact Pick.here | (refine Pick.sl ?_; (· repeat (first | exact List.Mem.head _ | assumption | apply List.Mem.tail))) | apply Pick.there))) | (refine Ent.trans (Ent.drop _ _) ?_))), ?_⟩
              refine RH.one (i := 7) (by kernel_rfl) ?_
              refine RHone.eff rfl (Wanted.free rfl) (E.alloc rfl ze33) rfl ?_
              rintro _ _ ⟨b8, rfl, rfl⟩
              refine ⟨.inr (by repeat (first | exact Ent.refl _ | (apply Ent.cons; (· repeat (first | exact Pick.here | (refine Pick.sl ?_; (· repeat (first | exact List.Mem.head _ | assumption | apply List.Mem.tail))) | apply Pick.there))) | (refine Ent.trans (Ent.drop _ _) ?_))), ?_⟩
              refine RH.one (i := 8) (by kernel_rfl) ?_
              refine RHone.eff rfl (Wanted.free rfl) (E.storeWhole rfl rfl rfl (dg_len (feed_length _ _ first_length)) sz33 (by repeat (first | exact Pick.here | assumption | apply Pick.there)) (dg_one rfl rfl) (by first | rfl | (rw [dg_len (feed_length _ _ first_length)]))) rfl ?_
              rintro _ _ rfl
              refine ⟨.inl (by kernel_rfl), ?_⟩
              refine RH.done (by kernel_rfl) ?_
              refine SG.weaken (rest ⟨b8, a22, c22⟩ trivial) ?_ ?_
              · repeat (first | exact EnvLe.nil _ | refine EnvLe.cons rfl ?_)
              · repeat (first | exact Ent.refl _ | (apply Ent.cons; (· repeat (first | exact Pick.here | (refine Pick.ro ?_; (· repeat (first | exact List.Mem.head _ | assumption | apply List.Mem.tail))) | apply Pick.there))) | (refine Ent.trans (Ent.drop _ _) ?_))
            · skip
              refine RHone.eff rfl (Wanted.free rfl) (E.alloc rfl ze33) rfl ?_
              rintro _ _ ⟨b8, rfl, rfl⟩
              refine ⟨.inr (by repeat (first | exact Ent.refl _ | (apply Ent.cons; (· repeat (first | exact Pick.here | (refine Pick.sl ?_; (· repeat (first | exact List.Mem.head _ | assumption | apply List.Mem.tail))) | apply Pick.there))) | (refine Ent.trans (Ent.drop _ _) ?_))), ?_⟩
              refine RH.one (i := 6) (by kernel_rfl) ?_
              refine RHone.eff rfl (Wanted.free rfl) (E.call rfl go17 rfl (writeX_ok (X := ([1] ++ x)) (b := y) (by repeat (first | exact List.Mem.head _ | assumption | apply List.Mem.tail)) (by repeat (first | exact List.Mem.head _ | assumption | apply List.Mem.tail)) (by unfold Tab; repeat (first | exact List.Mem.head _ | assumption | apply List.Mem.tail)) (by first | omega | (simp; done) | (simp; omega)) (by first | omega | (simp; done) | (simp; omega)))) rfl ?_
              rintro _ _ ⟨a22, c22, rfl, rfl⟩
              refine ⟨.inr (by repeat (first | exact Ent.refl _ | (apply Ent.cons; (· repeat (first | exact Pick.here | (refine Pick.sl ?_; (· repeat (first | exact List.Mem.head _ | assumption | apply List.Mem.tail))) | apply Pick.there))) | (refine Ent.trans (Ent.drop _ _) ?_))), ?_⟩
              refine RH.one (i := 8) (by kernel_rfl) ?_
              refine RHone.eff rfl (Wanted.free rfl) (E.storeWhole rfl rfl rfl (dg_len (feed_length _ _ first_length)) sz33 (by repeat (first | exact Pick.here | assumption | apply Pick.there)) (dg_one rfl rfl) (by first | rfl | (rw [dg_len (feed_length _ _ first_length)]))) rfl ?_
              rintro _ _ rfl
              refine ⟨.inl (by kernel_rfl), ?_⟩
              refine RH.done (by kernel_rfl) ?_
              refine SG.weaken (rest ⟨b8, a22, c22⟩ trivial) ?_ ?_
              · repeat (first | exact EnvLe.nil _ | refine EnvLe.cons rfl ?_)
              · repeat (first | exact Ent.refl _ | (apply Ent.cons; (· repeat (first | exact Pick.here | (refine Pick.ro ?_; (· repeat (first | exact List.Mem.head _ | assumption | apply List.Mem.tail))) | apply Pick.there))) | (refine Ent.trans (Ent.drop _ _) ?_))
          · skip
            refine RHone.eff rfl (Wanted.free rfl) (E.alloc rfl ze33) rfl ?_
            rintro _ _ ⟨b8, rfl, rfl⟩
            refine ⟨.inr (by repeat (first | exact Ent.refl _ | (apply Ent.cons; (· repeat (first | exact Pick.here | (refine Pick.sl ?_; (· repeat (first | exact List.Mem.head _ | assumption | apply List.Mem.tail))) | apply Pick.there))) | (refine Ent.trans (Ent.drop _ _) ?_))), ?_⟩
            refine RH.one (i := 4) (by kernel_rfl) ?_
            refine RHone.eff rfl (Wanted.free rfl) (E.call rfl go17 rfl (writeX_ok (X := [1]) (b := x) (by repeat (first | exact List.Mem.head _ | assumption | apply List.Mem.tail)) (by repeat (first | exact List.Mem.head _ | assumption | apply List.Mem.tail)) (by unfold Tab; repeat (first | exact List.Mem.head _ | assumption | apply List.Mem.tail)) (by first | omega | (simp; done) | (simp; omega)) (by first | omega | (simp; done) | (simp; omega)))) rfl ?_
            rintro _ _ ⟨a20, c20, rfl, rfl⟩
            refine ⟨.inr (by repeat (first | exact Ent.refl _ | (apply Ent.cons; (· repeat (first | exact Pick.here | (refine Pick.sl ?_; (· repeat (first | exact List.Mem.head _ | assumption | apply List.Mem.tail))) | apply Pick.there))) | (refine Ent.trans (Ent.drop _ _) ?_))), ?_⟩
            refine RH.one (i := 6) (by kernel_rfl) ?_
            refine RHone.eff rfl (Wanted.free rfl) (E.call rfl go17 rfl (writeX_ok (X := ([1] ++ x)) (b := y) (by repeat (first | exact List.Mem.head _ | assumption | apply List.Mem.tail)) (by repeat (first | exact List.Mem.head _ | assumption | apply List.Mem.tail)) (by unfold Tab; repeat (first | exact List.Mem.head _ | assumption | apply List.Mem.tail)) (by first | omega | (simp; done) | (simp; omega)) (by first | omega | (simp; done) | (simp; omega)))) rfl ?_
            rintro _ _ ⟨a22, c22, rfl, rfl⟩
            refine ⟨.inr (by repeat (first | exact Ent.refl _ | (apply Ent.cons; (· repeat (first | exact Pick.here | (refine Pick.sl ?_; (· repeat (first | exact List.Mem.head _ | assumption | apply List.Mem.tail))) | apply Pick.there))) | (refine Ent.trans (Ent.drop _ _) ?_))), ?_⟩
            refine RH.one (i := 8) (by kernel_rfl) ?_
            refine RHone.eff rfl (Wanted.free rfl) (E.storeWhole rfl rfl rfl (dg_len (feed_length _ _ first_length)) sz33 (by repeat (first | exact Pick.here | assumption | apply Pick.there)) (dg_one rfl rfl) (by first | rfl | (rw [dg_len (feed_length _ _ first_length)]))) rfl ?_
            rintro _ _ rfl
            refine ⟨.inl (by kernel_rfl), ?_⟩
            refine RH.done (by kernel_rfl) ?_
            refine SG.weaken (rest ⟨b8, a22, c22⟩ trivial) ?_ ?_
            · repeat (first | exact EnvLe.nil _ | refine EnvLe.cons rfl ?_)
            · repeat (first | exact Ent.refl _ | (apply Ent.cons; (· repeat (first | exact Pick.here | (refine Pick.ro ?_; (· repeat (first | exact List.Mem.head _ | assumption | apply List.Mem.tail))) | apply Pick.there))) | (refine Ent.trans (Ent.drop _ _) ?_))
        · skip
          refine RHone.eff rfl (Wanted.free rfl) (E.alloc rfl ze33) rfl ?_
          rintro _ _ ⟨b8, rfl, rfl⟩
          refine ⟨.inr (by repeat (first | exact Ent.refl _ | (apply Ent.cons; (· repeat (first | exact Pick.here | (refine Pick.sl ?_; (· repeat (first | exact List.Mem.head _ | assumption | apply List.Mem.tail))) | apply Pick.there))) | (refine Ent.trans (Ent.drop _ _) ?_))), ?_⟩
          refine RH.one (i := 2) (by kernel_rfl) ?_
          refine RHone.eff rfl (Wanted.free rfl) (E.call rfl go17 rfl (writeX_ok (X := []) (b := [1]) (by repeat (first | exact List.Mem.head _ | assumption | apply List.Mem.tail)) (by repeat (first | exact List.Mem.head _ | assumption | apply List.Mem.tail)) (by unfold Tab; repeat (first | exact List.Mem.head _ | assumption | apply List.Mem.tail)) (by first | omega | (simp; done) | (simp; omega)) (by first | omega | (simp; done) | (simp; omega)))) rfl ?_
          rintro _ _ ⟨a18, c18, rfl, rfl⟩
          refine ⟨.inr (by repeat (first | exact Ent.refl _ | (apply Ent.cons; (· repeat (first | exact Pick.here | (refine Pick.sl ?_; (· repeat (first | exact List.Mem.head _ | assumption | apply List.Mem.tail))) | apply Pick.there))) | (refine Ent.trans (Ent.drop _ _) ?_))), ?_⟩
          rw [List.nil_append]
          refine RH.one (i := 4) (by kernel_rfl) ?_
          refine RHone.eff rfl (Wanted.free rfl) (E.call rfl go17 rfl (writeX_ok (X := [1]) (b := x) (by repeat (first | exact List.Mem.head _ | assumption | apply List.Mem.tail)) (by repeat (first | exact List.Mem.head _ | assumption | apply List.Mem.tail)) (by unfold Tab; repeat (first | exact List.Mem.head _ | assumption | apply List.Mem.tail)) (by first | omega | (simp; done) | (simp; omega)) (by first | omega | (simp; done) | (simp; omega)))) rfl ?_
          rintro _ _ ⟨a20, c20, rfl, rfl⟩
          refine ⟨.inr (by repeat (first | exact Ent.refl _ | (apply Ent.cons; (· repeat (first | exact Pick.here | (refine Pick.sl ?_; (· repeat (first | exact List.Mem.head _ | assumption | apply List.Mem.tail))) | apply Pick.there))) | (refine Ent.trans (Ent.drop _ _) ?_))), ?_⟩
          refine RH.one (i := 6) (by kernel_rfl) ?_
          refine RHone.eff rfl (Wanted.free rfl) (E.call rfl go17 rfl (writeX_ok (X := ([1] ++ x)) (b := y) (by repeat (first | exact List.Mem.head _ | assumption | apply List.Mem.tail)) (by repeat (first | exact List.Mem.head _ | assumption | apply List.Mem.tail)) (by unfold Tab; repeat (first | exact List.Mem.head _ | assumption | apply List.Mem.tail)) (by first | omega | (simp; done) | (simp; omega)) (by first | omega | (simp; done) | (simp; omega)))) rfl ?_
          rintro _ _ ⟨a22, c22, rfl, rfl⟩
          refine ⟨.inr (by repeat (first | exact Ent.refl _ | (apply Ent.cons; (· repeat (first | exact Pick.here | (refine Pick.sl ?_; (· repeat (first | exact List.Mem.head _ | assumption | apply List.Mem.tail))) | apply Pick.there))) | (refine Ent.trans (Ent.drop _ _) ?_))), ?_⟩
          refine RH.one (i := 8) (by kernel_rfl) ?_
          refine RHone.eff rfl (Wanted.free rfl) (E.storeWhole rfl rfl rfl (dg_len (feed_length _ _ first_length)) sz33 (by repeat (first | exact Pick.here | assumption | apply Pick.there)) (dg_one rfl rfl) (by first | rfl | (rw [dg_len (feed_length _ _ first_length)]))) rfl ?_
          rintro _ _ rfl
          refine ⟨.inl (by kernel_rfl), ?_⟩
          refine RH.done (by kernel_rfl) ?_
          refine SG.weaken (rest ⟨b8, a22, c22⟩ trivial) ?_ ?_
          · repeat (first | exact EnvLe.nil _ | refine EnvLe.cons rfl ?_)
          · repeat (first | exact Ent.refl _ | (apply Ent.cons; (· repeat (first | exact Pick.here | (refine Pick.ro ?_; (· repeat (first | exact List.Mem.head _ | assumption | apply List.Mem.tail))) | apply Pick.there))) | (refine Ent.trans (Ent.drop _ _) ?_))
      · skip
        refine RHone.eff rfl (Wanted.free rfl) (E.alloc rfl ze33) rfl ?_
        rintro _ _ ⟨b8, rfl, rfl⟩
        refine ⟨.inr (by repeat (first | exact Ent.refl _ | (apply Ent.cons; (· repeat (first | exact Pick.here | (refine Pick.sl ?_; (· repeat (first | exact List.Mem.head _ | assumption | apply List.Mem.tail))) | apply Pick.there))) | (refine Ent.trans (Ent.drop _ _) ?_))), ?_⟩
        refine RH.one (i := 1) (by kernel_rfl) ?_
        refine RHone.eff rfl (Wanted.free rfl) (E.lit1 [.int .u8 1] rfl el22.slice ze5 rfl (by decide) (by decide) rfl rfl rfl) rfl ?_
        rintro _ _ ⟨b17, rfl, rfl⟩
        refine ⟨.inr (by repeat (first | exact Ent.refl _ | (apply Ent.cons; (· repeat (first | exact Pick.here | (refine Pick.sl ?_; (· repeat (first | exact List.Mem.head _ | assumption | apply List.Mem.tail))) | apply Pick.there))) | (refine Ent.trans (Ent.drop _ _) ?_))), ?_⟩
        refine RH.ent (Buf.lit1' (T := R8) (b := b17) (e := 5) (y := 1) Pick.here rfl (fun _ => ⟨rfl, trivial⟩)) ?_
        refine RH.publish (T := R8) (a := some ⟨b17, 0, none⟩) Pick.here ?_
        refine RH.one (i := 2) (by kernel_rfl) ?_
        refine RHone.eff rfl (Wanted.free rfl) (E.call rfl go17 rfl (writeX_ok (X := []) (b := [1]) (by repeat (first | exact List.Mem.head _ | assumption | apply List.Mem.tail)) (by repeat (first | exact List.Mem.head _ | assumption | apply List.Mem.tail)) (by unfold Tab; repeat (first | exact List.Mem.head _ | assumption | apply List.Mem.tail)) (by first | omega | (simp; done) | (simp; omega)) (by first | omega | (simp; done) | (simp; omega)))) rfl ?_
        rintro _ _ ⟨a18, c18, rfl, rfl⟩
        refine ⟨.inr (by repeat (first | exact Ent.refl _ | (apply Ent.cons; (· repeat (first | exact Pick.here | (refine Pick.sl ?_; (· repeat (first | exact List.Mem.head _ | assumption | apply List.Mem.tail))) | apply Pick.there))) | (refine Ent.trans (Ent.drop _ _) ?_))), ?_⟩
        rw [List.nil_append]
        refine RH.one (i := 4) (by kernel_rfl) ?_
        refine RHone.eff rfl (Wanted.free rfl) (E.call rfl go17 rfl (writeX_ok (X := [1]) (b := x) (by repeat (first | exact List.Mem.head _ | assumption | apply List.Mem.tail)) (by repeat (first | exact List.Mem.head _ | assumption | apply List.Mem.tail)) (by unfold Tab; repeat (first | exact List.Mem.head _ | assumption | apply List.Mem.tail)) (by first | omega | (simp; done) | (simp; omega)) (by first | omega | (simp; done) | (simp; omega)))) rfl ?_
        rintro _ _ ⟨a20, c20, rfl, rfl⟩
        refine ⟨.inr (by repeat (first | exact Ent.refl _ | (apply Ent.cons; (· repeat (first | exact Pick.here | (refine Pick.sl ?_; (· repeat (first | exact List.Mem.head _ | assumption | apply List.Mem.tail))) | apply Pick.there))) | (refine Ent.trans (Ent.drop _ _) ?_))), ?_⟩
        refine RH.one (i := 6) (by kernel_rfl) ?_
        refine RHone.eff rfl (Wanted.free rfl) (E.call rfl go17 rfl (writeX_ok (X := ([1] ++ x)) (b := y) (by repeat (first | exact List.Mem.head _ | assumption | apply List.Mem.tail)) (by repeat (first | exact List.Mem.head _ | assumption | apply List.Mem.tail)) (by unfold Tab; repeat (first | exact List.Mem.head _ | assumption | apply List.Mem.tail)) (by first | omega | (simp; done) | (simp; omega)) (by first | omega | (simp; done) | (simp; omega)))) rfl ?_
        rintro _ _ ⟨a22, c22, rfl, rfl⟩
        refine ⟨.inr (by repeat (first | exact Ent.refl _ | (apply Ent.cons; (· repeat (first | exact Pick.here | (refine Pick.sl ?_; (· repeat (first | exact List.Mem.head _ | assumption | apply List.Mem.tail))) | apply Pick.there))) | (refine Ent.trans (Ent.drop _ _) ?_))), ?_⟩
        refine RH.one (i := 8) (by kernel_rfl) ?_
        refine RHone.eff rfl (Wanted.free rfl) (E.storeWhole rfl rfl rfl (dg_len (feed_length _ _ first_length)) sz33 (by repeat (first | exact Pick.here | assumption | apply Pick.there)) (dg_one rfl rfl) (by first | rfl | (rw [dg_len (feed_length _ _ first_length)]))) rfl ?_
        rintro _ _ rfl
        refine ⟨.inl (by kernel_rfl), ?_⟩
        refine RH.done (by kernel_rfl) ?_
        refine SG.weaken (rest ⟨b8, a22, c22⟩ trivial) ?_ ?_
        · repeat (first | exact EnvLe.nil _ | refine EnvLe.cons rfl ?_)
        · repeat (first | exact Ent.refl _ | (apply Ent.cons; (· repeat (first | exact Pick.here | (refine Pick.ro ?_; (· repeat (first | exact List.Mem.head _ | assumption | apply List.Mem.tail))) | apply Pick.there))) | (refine Ent.trans (Ent.drop _ _) ?_))
    · skip
      refine RHone.eff rfl (Wanted.free rfl) (E.lit1 [.int .u8 1] rfl el22.slice ze5 rfl (by decide) (by decide) rfl rfl rfl) rfl ?_
      rintro _ _ ⟨b17, rfl, rfl⟩
      refine ⟨.inr (by repeat (first | exact Ent.refl _ | (apply Ent.cons; (· repeat (first | exact Pick.here | (refine Pick.sl ?_; (· repeat (first | exact List.Mem.head _ | assumption | apply List.Mem.tail))) | apply Pick.there))) | (refine Ent.trans (Ent.drop _ _) ?_))), ?_⟩
      refine RH.ent (Buf.lit1' (T := R8) (b := b17) (e := 5) (y := 1) Pick.here rfl (fun _ => ⟨rfl, trivial⟩)) ?_
      refine RH.publish (T := R8) (a := some ⟨b17, 0, none⟩) Pick.here ?_
      refine RH.two (i := 0) (j := 7) (by kernel_rfl) ?_ ?_
      · skip
        refine RHone.eff rfl (Wanted.free rfl) (E.call rfl go18 rfl (newX_ok)) rfl ?_
        rintro _ _ ⟨rfl, rfl⟩
        refine ⟨.inr (by repeat (first | exact Ent.refl _ | (apply Ent.cons; (· repeat (first | exact Pick.here | (refine Pick.sl ?_; (· repeat (first | exact List.Mem.head _ | assumption | apply List.Mem.tail))) | apply Pick.there))) | (refine Ent.trans (Ent.drop _ _) ?_))), ?_⟩
        refine RH.two (i := 2) (j := 7) (by kernel_rfl) ?_ ?_
        · skip
          refine RHone.eff rfl (Wanted.free rfl) (E.call rfl go17 rfl (writeX_ok (X := []) (b := [1]) (by repeat (first | exact List.Mem.head _ | assumption | apply List.Mem.tail)) (by repeat (first | exact List.Mem.head _ | assumption | apply List.Mem.tail)) (by unfold Tab; repeat (first | exact List.Mem.head _ | assumption | apply List.Mem.tail)) (by first | omega | (simp; done) | (simp; omega)) (by first | omega | (simp; done) | (simp; omega)))) rfl ?_
          rintro _ _ ⟨a18, c18, rfl, rfl⟩
          refine ⟨.inr (by repeat (first | exact Ent.refl _ | (apply Ent.cons; (· repeat (first | exact Pick.here | (refine Pick.sl ?_; (· repeat (first | exact List.Mem.head _ | assumption | apply List.Mem.tail))) | apply Pick.there))) | (refine Ent.trans (Ent.drop _ _) ?_))), ?_⟩
          rw [List.nil_append]
          refine RH.two (i := 4) (j := 7) (by kernel_rfl) ?_ ?_
          · skip
            refine RHone.eff rfl (Wanted.free rfl) (E.call rfl go17 rfl (writeX_ok (X := [1]) (b := x) (by repeat (first | exact List.Mem.head _ | assumption | apply List.Mem.tail)) (by repeat (first | exact List.Mem.head _ | assumption | apply List.Mem.tail)) (by unfold Tab; repeat (first | exact List.Mem.head _ | assumption | apply List.Mem.tail)) (by first | omega | (simp; done) | (simp; omega)) (by first | omega | (simp; done) | (simp; omega)))) rfl ?_
            rintro _ _ ⟨a20, c20, rfl, rfl⟩
            refine ⟨.inr (by repeat (first | exact Ent.refl _ | (apply Ent.cons; (· repeat (first | exact Pick.here | (refine Pick.sl ?_; (· repeat (first | exact List.Mem.head _ | assumption | apply List.Mem.tail))) | apply Pick.there))) | (refine Ent.trans (Ent.drop _ _) ?_))), ?_⟩
            refine RH.two (i := 6) (j := 7) (by kernel_rfl) ?_ ?_
            · skip
              refine RHone.eff rfl (Wanted.free rfl) (E.call rfl go17 rfl (writeX_ok (X := ([1] ++ x)) (b := y) (by repeat (first | exact List.Mem.head _ | assumption | apply List.Mem.tail)) (by repeat (first | exact List.Mem.head _ | assumption | apply List.Mem.tail)) (by unfold Tab; repeat (first | exact List.Mem.head _ | assumption | apply List.Mem.tail)) (by first | omega | (simp; done) | (simp; omega)) (by first | omega | (simp; done) | (simp; omega)))) rfl ?_
              rintro _ _ ⟨a22, c22, rfl, rfl⟩
              refine ⟨.inr (by repeat (first | exact Ent.refl _ | (apply Ent.cons; (· repeat (first | exact Pick.here | (refine Pick.sl ?_; (· repeat (first | exact List.Mem.head _ | assumption | apply List.Mem.tail))) | apply Pick.there))) | (refine Ent.trans (Ent.drop _ _) ?_))), ?_⟩
              refine RH.one (i := 7) (by kernel_rfl) ?_
              refine RHone.eff rfl (Wanted.free rfl) (E.alloc rfl ze33) rfl ?_
              rintro _ _ ⟨b8, rfl, rfl⟩
              refine ⟨.inr (by repeat (first | exact Ent.refl _ | (apply Ent.cons; (· repeat (first | exact Pick.here | (refine Pick.sl ?_; (· repeat (first | exact List.Mem.head _ | assumption | apply List.Mem.tail))) | apply Pick.there))) | (refine Ent.trans (Ent.drop _ _) ?_))), ?_⟩
              refine RH.one (i := 8) (by kernel_rfl) ?_
              refine RHone.eff rfl (Wanted.free rfl) (E.storeWhole rfl rfl rfl (dg_len (feed_length _ _ first_length)) sz33 (by repeat (first | exact Pick.here | assumption | apply Pick.there)) (dg_one rfl rfl) (by first | rfl | (rw [dg_len (feed_length _ _ first_length)]))) rfl ?_
              rintro _ _ rfl
              refine ⟨.inl (by kernel_rfl), ?_⟩
              refine RH.done (by kernel_rfl) ?_
              refine SG.weaken (rest ⟨b8, a22, c22⟩ trivial) ?_ ?_
              · repeat (first | exact EnvLe.nil _ | refine EnvLe.cons rfl ?_)
              · repeat (first | exact Ent.refl _ | (apply Ent.cons; (· repeat (first | exact Pick.here | (refine Pick.ro ?_; (· repeat (first | exact List.Mem.head _ | assumption | apply List.Mem.tail))) | apply Pick.there))) | (refine Ent.trans (Ent.drop _ _) ?_))
            · skip
              refine RHone.eff rfl (Wanted.free rfl) (E.alloc rfl ze33) rfl ?_
              rintro _ _ ⟨b8, rfl, rfl⟩
              refine ⟨.inr (by repeat (first | exact Ent.refl _ | (apply Ent.cons; (· repeat (first | exact Pick.here | (refine Pick.sl ?_; (· repeat (first | exact List.Mem.head _ | assumption | apply List.Mem.tail))) | apply Pick.there))) | (refine Ent.trans (Ent.drop _ _) ?_))), ?_⟩
              refine RH.one (i := 6) (by kernel_rfl) ?_
              refine RHone.eff rfl (Wanted.free rfl) (E.call rfl go17 rfl (writeX_ok (X := ([1] ++ x)) (b := y) (by repeat (first | exact List.Mem.head _ | assumption | apply List.Mem.tail)) (by repeat (first | exact List.Mem.head _ | assumption | apply List.Mem.tail)) (by unfold Tab; repeat (first | exact List.Mem.head _ | assumption | apply List.Mem.tail)) (by first | omega | (simp; done) | (simp; omega)) (by first | omega | (simp; done) | (simp; omega)))) rfl ?_
              rintro _ _ ⟨a22, c22, rfl, rfl⟩
              refine ⟨.inr (by repeat (first | exact Ent.refl _ | (apply Ent.cons; (· repeat (first | exact Pick.here | (refine Pick.sl ?_; (· repeat (first | exact List.Mem.head _ | assumption | apply List.Mem.tail))) | apply Pick.there))) | (refine Ent.trans (Ent.drop _ _) ?_))), ?_⟩
              refine RH.one (i := 8) (by kernel_rfl) ?_
              refine RHone.eff rfl (Wanted.free rfl) (E.storeWhole rfl rfl rfl (dg_len (feed_length _ _ first_length)) sz33 (by repeat (first | exact Pick.here | assumption | apply Pick.there)) (dg_one rfl rfl) (by first | rfl | (rw [dg_len (feed_length _ _ first_length)]))) rfl ?_
              rintro _ _ rfl
              refine ⟨.inl (by kernel_rfl), ?_⟩
              refine RH.done (by kernel_rfl) ?_
              refine SG.weaken (rest ⟨b8, a22, c22⟩ trivial) ?_ ?_
              · repeat (first | exact EnvLe.nil _ | refine EnvLe.cons rfl ?_)
              · repeat (first | exact Ent.refl _ | (apply Ent.cons; (· repeat (first | exact Pick.here | (refine Pick.ro ?_; (· repeat (first | exact List.Mem.head _ | assumption | apply List.Mem.tail))) | apply Pick.there))) | (refine Ent.trans (Ent.drop _ _) ?_))
          · skip
            refine RHone.eff rfl (Wanted.free rfl) (E.alloc rfl ze33) rfl ?_
            rintro _ _ ⟨b8, rfl, rfl⟩
            refine ⟨.inr (by repeat (first | exact Ent.refl _ | (apply Ent.cons; (· repeat (first | exact Pick.here | (refine Pick.sl ?_; (· repeat (first | exact List.Mem.head _ | assumption | apply List.Mem.tail))) | apply Pick.there))) | (refine Ent.trans (Ent.drop _ _) ?_))), ?_⟩
            refine RH.one (i := 4) (by kernel_rfl) ?_
            refine RHone.eff rfl (Wanted.free rfl) (E.call rfl go17 rfl (writeX_ok (X := [1]) (b := x) (by repeat (first | exact List.Mem.head _ | assumption | apply List.Mem.tail)) (by repeat (first | exact List.Mem.head _ | assumption | apply List.Mem.tail)) (by unfold Tab; repeat (first | exact List.Mem.head _ | assumption | apply List.Mem.tail)) (by first | omega | (simp; done) | (simp; omega)) (by first | omega | (simp; done) | (simp; omega)))) rfl ?_
            rintro _ _ ⟨a20, c20, rfl, rfl⟩
            refine ⟨.inr (by repeat (first | exact Ent.refl _ | (apply Ent.cons; (· repeat (first | exact Pick.here | (refine Pick.sl ?_; (· repeat (first | exact List.Mem.head _ | assumption | apply List.Mem.tail))) | apply Pick.there))) | (refine Ent.trans (Ent.drop _ _) ?_))), ?_⟩
            refine RH.one (i := 6) (by kernel_rfl) ?_
            refine RHone.eff rfl (Wanted.free rfl) (E.call rfl go17 rfl (writeX_ok (X := ([1] ++ x)) (b := y) (by repeat (first | exact List.Mem.head _ | assumption | apply List.Mem.tail)) (by repeat (first | exact List.Mem.head _ | assumption | apply List.Mem.tail)) (by unfold Tab; repeat (first | exact List.Mem.head _ | assumption | apply List.Mem.tail)) (by first | omega | (simp; done) | (simp; omega)) (by first | omega | (simp; done) | (simp; omega)))) rfl ?_
            rintro _ _ ⟨a22, c22, rfl, rfl⟩
            refine ⟨.inr (by repeat (first | exact Ent.refl _ | (apply Ent.cons; (· repeat (first | exact Pick.here | (refine Pick.sl ?_; (· repeat (first | exact List.Mem.head _ | assumption | apply List.Mem.tail))) | apply Pick.there))) | (refine Ent.trans (Ent.drop _ _) ?_))), ?_⟩
            refine RH.one (i := 8) (by kernel_rfl) ?_
            refine RHone.eff rfl (Wanted.free rfl) (E.storeWhole rfl rfl rfl (dg_len (feed_length _ _ first_length)) sz33 (by repeat (first | exact Pick.here | assumption | apply Pick.there)) (dg_one rfl rfl) (by first | rfl | (rw [dg_len (feed_length _ _ first_length)]))) rfl ?_
            rintro _ _ rfl
            refine ⟨.inl (by kernel_rfl), ?_⟩
            refine RH.done (by kernel_rfl) ?_
            refine SG.weaken (rest ⟨b8, a22, c22⟩ trivial) ?_ ?_
            · repeat (first | exact EnvLe.nil _ | refine EnvLe.cons rfl ?_)
            · repeat (first | exact Ent.refl _ | (apply Ent.cons; (· repeat (first | exact Pick.here | (refine Pick.ro ?_; (· repeat (first | exact List.Mem.head _ | assumption | apply List.Mem.tail))) | apply Pick.there))) | (refine Ent.trans (Ent.drop _ _) ?_))
        · skip
          refine RHone.eff rfl (Wanted.free rfl) (E.alloc rfl ze33) rfl ?_
          rintro _ _ ⟨b8, rfl, rfl⟩
          refine ⟨.inr (by repeat (first | exact Ent.refl _ | (apply Ent.cons; (· repeat (first | exact Pick.here | (refine Pick.sl ?_; (· repeat (first | exact List.Mem.head _ | assumption | apply List.Mem.tail))) | apply Pick.there))) | (refine Ent.trans (Ent.drop _ _) ?_))), ?_⟩
          refine RH.one (i := 2) (by kernel_rfl) ?_
          refine RHone.eff rfl (Wanted.free rfl) (E.call rfl go17 rfl (writeX_ok (X := []) (b := [1]) (by repeat (first | exact List.Mem.head _ | assumption | apply List.Mem.tail)) (by repeat (first | exact List.Mem.head _ | assumption | apply List.Mem.tail)) (by unfold Tab; repeat (first | exact List.Mem.head _ | assumption | apply List.Mem.tail)) (by first | omega | (simp; done) | (simp; omega)) (by first | omega | (simp; done) | (simp; omega)))) rfl ?_
          rintro _ _ ⟨a18, c18, rfl, rfl⟩
          refine ⟨.inr (by repeat (first | exact Ent.refl _ | (apply Ent.cons; (· repeat (first | exact Pick.here | (refine Pick.sl ?_; (· repeat (first | exact List.Mem.head _ | assumption | apply List.Mem.tail))) | apply Pick.there))) | (refine Ent.trans (Ent.drop _ _) ?_))), ?_⟩
          rw [List.nil_append]
          refine RH.one (i := 4) (by kernel_rfl) ?_
          refine RHone.eff rfl (Wanted.free rfl) (E.call rfl go17 rfl (writeX_ok (X := [1]) (b := x) (by repeat (first | exact List.Mem.head _ | assumption | apply List.Mem.tail)) (by repeat (first | exact List.Mem.head _ | assumption | apply List.Mem.tail)) (by unfold Tab; repeat (first | exact List.Mem.head _ | assumption | apply List.Mem.tail)) (by first | omega | (simp; done) | (simp; omega)) (by first | omega | (simp; done) | (simp; omega)))) rfl ?_
          rintro _ _ ⟨a20, c20, rfl, rfl⟩
          refine ⟨.inr (by repeat (first | exact Ent.refl _ | (apply Ent.cons; (· repeat (first | exact Pick.here | (refine Pick.sl ?_; (· repeat (first | exact List.Mem.head _ | assumption | apply List.Mem.tail))) | apply Pick.there))) | (refine Ent.trans (Ent.drop _ _) ?_))), ?_⟩
          refine RH.one (i := 6) (by kernel_rfl) ?_
          refine RHone.eff rfl (Wanted.free rfl) (E.call rfl go17 rfl (writeX_ok (X := ([1] ++ x)) (b := y) (by repeat (first | exact List.Mem.head _ | assumption | apply List.Mem.tail)) (by repeat (first | exact List.Mem.head _ | assumption | apply List.Mem.tail)) (by unfold Tab; repeat (first | exact List.Mem.head _ | assumption | apply List.Mem.tail)) (by first | omega | (simp; done) | (simp; omega)) (by first | omega | (simp; done) | (simp; omega)))) rfl ?_
          rintro _ _ ⟨a22, c22, rfl, rfl⟩
          refine ⟨.inr (by repeat (first | exact Ent.refl _ | (apply Ent.cons; (· repeat (first | exact Pick.here | (refine Pick.sl ?_; (· repeat (first | exact List.Mem.head _ | assumption | apply List.Mem.tail))) | apply Pick.there))) | (refine Ent.trans (Ent.drop _ _) ?_))), ?_⟩
          refine RH.one (i := 8) (by kernel_rfl) ?_
          refine RHone.eff rfl (Wanted.free rfl) (E.storeWhole rfl rfl rfl (dg_len (feed_length _ _ first_length)) sz33 (by repeat (first | exact Pick.here | assumption | apply Pick.there)) (dg_one rfl rfl) (by first | rfl | (rw [dg_len (feed_length _ _ first_length)]))) rfl ?_
          rintro _ _ rfl
          refine ⟨.inl (by kernel_rfl), ?_⟩
          refine RH.done (by kernel_rfl) ?_
          refine SG.weaken (rest ⟨b8, a22, c22⟩ trivial) ?_ ?_
          · repeat (first | exact EnvLe.nil _ | refine EnvLe.cons rfl ?_)
          · repeat (first | exact Ent.refl _ | (apply Ent.cons; (· repeat (first | exact Pick.here | (refine Pick.ro ?_; (· repeat (first | exact List.Mem.head _ | assumption | apply List.Mem.tail))) | apply Pick.there))) | (refine Ent.trans (Ent.drop _ _) ?_))
      · skip
        refine RHone.eff rfl (Wanted.free rfl) (E.alloc rfl ze33) rfl ?_
        rintro _ _ ⟨b8, rfl, rfl⟩
        refine ⟨.inr (by repeat (first | exact Ent.refl _ | (apply Ent.cons; (· repeat (first | exact Pick.here | (refine Pick.sl ?_; (· repeat (first | exact List.Mem.head _ | assumption | apply List.Mem.tail))) | apply Pick.there))) | (refine Ent.trans (Ent.drop _ _) ?_))), ?_⟩
        refine RH.one (i := 0) (by kernel_rfl) ?_
        refine RHone.eff rfl (Wanted.free rfl) (E.call rfl go18 rfl (newX_ok)) rfl ?_
        rintro _ _ ⟨rfl, rfl⟩
        refine ⟨.inr (by repeat (first | exact Ent.refl _ | (apply Ent.cons; (· repeat (first | exact Pick.here | (refine Pick.sl ?_; (· repeat (first | exact List.Mem.head _ | assumption | apply List.Mem.tail))) | apply Pick.there))) | (refine Ent.trans (Ent.drop _ _) ?_))), ?_⟩
        refine RH.one (i := 2) (by kernel_rfl) ?_
        refine RHone.eff rfl (Wanted.free rfl) (E.call rfl go17 rfl (writeX_ok (X := []) (b := [1]) (by repeat (first | exact List.Mem.head _ | assumption | apply List.Mem.tail)) (by repeat (first | exact List.Mem.head _ | assumption | apply List.Mem.tail)) (by unfold Tab; repeat (first | exact List.Mem.head _ | assumption | apply List.Mem.tail)) (by first | omega | (simp; done) | (simp; omega)) (by first | omega | (simp; done) | (simp; omega)))) rfl ?_
        rintro _ _ ⟨a18, c18, rfl, rfl⟩
        refine ⟨.inr (by repeat (first | exact Ent.refl _ | (apply Ent.cons; (· repeat (first | exact Pick.here | (refine Pick.sl ?_; (· repeat (first | exact List.Mem.head _ | assumption | apply List.Mem.tail))) | apply Pick.there))) | (refine Ent.trans (Ent.drop _ _) ?_))), ?_⟩
        rw [List.nil_append]
        refine RH.one (i := 4) (by kernel_rfl) ?_
        refine RHone.eff rfl (Wanted.free rfl) (E.call rfl go17 rfl (writeX_ok (X := [1]) (b := x) (by repeat (first | exact List.Mem.head _ | assumption | apply List.Mem.tail)) (by repeat (first | exact List.Mem.head _ | assumption | apply List.Mem.tail)) (by unfold Tab; repeat (first | exact List.Mem.head _ | assumption | apply List.Mem.tail)) (by first | omega | (simp; done) | (simp; omega)) (by first | omega | (simp; done) | (simp; omega)))) rfl ?_
        rintro _ _ ⟨a20, c20, rfl, rfl⟩
        refine ⟨.inr (by repeat (first | exact Ent.refl _ | (apply Ent.cons; (· repeat (first | exact Pick.here | (refine Pick.sl ?_; (· repeat (first | exact List.Mem.head _ | assumption | apply List.Mem.tail))) | apply Pick.there))) | (refine Ent.trans (Ent.drop _ _) ?_))), ?_⟩
        refine RH.one (i := 6) (by kernel_rfl) ?_
        refine RHone.eff rfl (Wanted.free rfl) (E.call rfl go17 rfl (writeX_ok (X := ([1] ++ x)) (b := y) (by repeat (first | exact List.Mem.head _ | assumption | apply List.Mem.tail)) (by repeat (first | exact List.Mem.head _ | assumption | apply List.Mem.tail)) (by unfold Tab; repeat (first | exact List.Mem.head _ | assumption | apply List.Mem.tail)) (by first | omega | (simp; done) | (simp; omega)) (by first | omega | (simp; done) | (simp; omega)))) rfl ?_
        rintro _ _ ⟨a22, c22, rfl, rfl⟩
        refine ⟨.inr (by repeat (first | exact Ent.refl _ | (apply Ent.cons; (· repeat (first | exact Pick.here | (refine Pick.sl ?_; (· repeat (first | exact List.Mem.head _ | assumption | apply List.Mem.tail))) | apply Pick.there))) | (refine Ent.trans (Ent.drop _ _) ?_))), ?_⟩
        refine RH.one (i := 8) (by kernel_rfl) ?_
        refine RHone.eff rfl (Wanted.free rfl) (E.storeWhole rfl rfl rfl (dg_len (feed_length _ _ first_length)) sz33 (by repeat (first | exact Pick.here | assumption | apply Pick.there)) (dg_one rfl rfl) (by first | rfl | (rw [dg_len (feed_length _ _ first_length)]))) rfl ?_
        rintro _ _ rfl
        refine ⟨.inl (by kernel_rfl), ?_⟩
        refine RH.done (by kernel_rfl) ?_
        refine SG.weaken (rest ⟨b8, a22, c22⟩ trivial) ?_ ?_
        · repeat (first | exact EnvLe.nil _ | refine EnvLe.cons rfl ?_)
        · repeat (first | exact Ent.refl _ | (apply Ent.cons; (· repeat (first | exact Pick.here | (refine Pick.ro ?_; (· repeat (first | exact List.Mem.head _ | assumption | apply List.Mem.tail))) | apply Pick.there))) | (refine Ent.trans (Ent.drop _ _) ?_))
    · skip
      refine RHone.eff rfl (Wanted.free rfl) (E.alloc rfl ze33) rfl ?_
      rintro _ _ ⟨b8, rfl, rfl⟩
      refine ⟨.inr (by repeat (first | exact Ent.refl _ | (apply Ent.cons; (· repeat (first | exact Pick.here | (refine Pick.sl ?_; (· repeat (first | exact List.Mem.head _ | assumption | apply List.Mem.tail))) | apply Pick.there))) | (refine Ent.trans (Ent.drop _ _) ?_))), ?_⟩
      refine RH.two (i := 0) (j := 1) (by kernel_rfl) ?_ ?_
      · skip
        refine RHone.eff rfl (Wanted.free rfl) (E.call rfl go18 rfl (newX_ok)) rfl ?_
        rintro _ _ ⟨rfl, rfl⟩
        refine ⟨.inr (by repeat (first | exact Ent.refl _ | (apply Ent.cons; (· repeat (first | exact Pick.here | (refine Pick.sl ?_; (· repeat (first | exact List.Mem.head _ | assumption | apply List.Mem.tail))) | apply Pick.there))) | (refine Ent.trans (Ent.drop _ _) ?_))), ?_⟩
        refine RH.one (i := 1) (by kernel_rfl) ?_
        refine RHone.eff rfl (Wanted.free rfl) (E.lit1 [.int .u8 1] rfl el22.slice ze5 rfl (by decide) (by decide) rfl rfl rfl) rfl ?_
        rintro _ _ ⟨b17, rfl, rfl⟩
        refine ⟨.inr (by repeat (first | exact Ent.refl _ | (apply Ent.cons; (· repeat (first | exact Pick.here | (refine Pick.sl ?_; (· repeat (first | exact List.Mem.head _ | assumption | apply List.Mem.tail))) | apply Pick.there))) | (refine Ent.trans (Ent.drop _ _) ?_))), ?_⟩
        refine RH.ent (Buf.lit1' (T := R8) (b := b17) (e := 5) (y := 1) Pick.here rfl (fun _ => ⟨rfl, trivial⟩)) ?_
        refine RH.publish (T := R8) (a := some ⟨b17, 0, none⟩) Pick.here ?_
        refine RH.one (i := 2) (by kernel_rfl) ?_
        refine RHone.eff rfl (Wanted.free rfl) (E.call rfl go17 rfl (writeX_ok (X := []) (b := [1]) (by repeat (first | exact List.Mem.head _ | assumption | apply List.Mem.tail)) (by repeat (first | exact List.Mem.head _ | assumption | apply List.Mem.tail)) (by unfold Tab; repeat (first | exact List.Mem.head _ | assumption | apply List.Mem.tail)) (by first | omega | (simp; done) | (simp; omega)) (by first | omega | (simp; done) | (simp; omega)))) rfl ?_
        rintro _ _ ⟨a18, c18, rfl, rfl⟩
        refine ⟨.inr (by repeat (first | exact Ent.refl _ | (apply Ent.cons; (· repeat (first | exact Pick.here | (refine Pick.sl ?_; (· repeat (first | exact List.Mem.head _ | assumption | apply List.Mem.tail))) | apply Pick.there))) | (refine Ent.trans (Ent.drop _ _) ?_))), ?_⟩
        rw [List.nil_append]
        refine RH.one (i := 4) (by kernel_rfl) ?_
        refine RHone.eff rfl (Wanted.free rfl) (E.call rfl go17 rfl (writeX_ok (X := [1]) (b := x) (by repeat (first | exact List.Mem.head _ | assumption | apply List.Mem.tail)) (by repeat (first | exact List.Mem.head _ | assumption | apply List.Mem.tail)) (by unfold Tab; repeat (first | exact List.Mem.head _ | assumption | apply List.Mem.tail)) (by first | omega | (simp; done) | (simp; omega)) (by first | omega | (simp; done) | (simp; omega)))) rfl ?_
        rintro _ _ ⟨a20, c20, rfl, rfl⟩
        refine ⟨.inr (by repeat (first | exact Ent.refl _ | (apply Ent.cons; (· repeat (first | exact Pick.here | (refine Pick.sl ?_; (· repeat (first | exact List.Mem.head _ | assumption | apply List.Mem.tail))) | apply Pick.there))) | (refine Ent.trans (Ent.drop _ _) ?_))), ?_⟩
        refine RH.one (i := 6) (by kernel_rfl) ?_
        refine RHone.eff rfl (Wanted.free rfl) (E.call rfl go17 rfl (writeX_ok (X := ([1] ++ x)) (b := y) (by repeat (first | exact List.Mem.head _ | assumption | apply List.Mem.tail)) (by repeat (first | exact List.Mem.head _ | assumption | apply List.Mem.tail)) (by unfold Tab; repeat (first | exact List.Mem.head _ | assumption | apply List.Mem.tail)) (by first | omega | (simp; done) | (simp; omega)) (by first | omega | (simp; done) | (simp; omega)))) rfl ?_
        rintro _ _ ⟨a22, c22, rfl, rfl⟩
        refine ⟨.inr (by repeat (first | exact Ent.refl _ | (apply Ent.cons; (· repeat (first | exact Pick.here | (refine Pick.sl ?_; (· repeat (first | exact List.Mem.head _ | assumption | apply List.Mem.tail))) | apply Pick.there))) | (refine Ent.trans (Ent.drop _ _) ?_))), ?_⟩
        refine RH.one (i := 8) (by kernel_rfl) ?_
        refine RHone.eff rfl (Wanted.free rfl) (E.storeWhole rfl rfl rfl (dg_len (feed_length _ _ first_length)) sz33 (by repeat (first | exact Pick.here | assumption | apply Pick.there)) (dg_one rfl rfl) (by first | rfl | (rw [dg_len (feed_length _ _ first_length)]))) rfl ?_
        rintro _ _ rfl
        refine ⟨.inl (by kernel_rfl), ?_⟩
        refine RH.done (by kernel_rfl) ?_
        refine SG.weaken (rest ⟨b8, a22, c22⟩ trivial) ?_ ?_
        · repeat (first | exact EnvLe.nil _ | refine EnvLe.cons rfl ?_)
        · repeat (first | exact Ent.refl _ | (apply Ent.cons; (· repeat (first | exact Pick.here | (refine Pick.ro ?_; (· repeat (first | exact List.Mem.head _ | assumption | apply List.Mem.tail))) | apply Pick.there))) | (refine Ent.trans (Ent.drop _ _) ?_))
      · skip
        refine RHone.eff rfl (Wanted.free rfl) (E.lit1 [.int .u8 1] rfl el22.slice ze5 rfl (by decide) (by decide) rfl rfl rfl) rfl ?_
        rintro _ _ ⟨b17, rfl, rfl⟩
        refine ⟨.inr (by repeat (first | exact Ent.refl _ | (apply Ent.cons; (· repeat (first | exact Pick.here | (refine Pick.sl ?_; (· repeat (first | exact List.Mem.head _ | assumption | apply List.Mem.tail))) | apply Pick.there))) | (refine Ent.trans (Ent.drop _ _) ?_))), ?_⟩
        refine RH.ent (Buf.lit1' (T := R8) (b := b17) (e := 5) (y := 1) Pick.here rfl (fun _ => ⟨rfl, trivial⟩)) ?_
        refine RH.publish (T := R8) (a := some ⟨b17, 0, none⟩) Pick.here ?_
        refine RH.one (i := 0) (by kernel_rfl) ?_
        refine RHone.eff rfl (Wanted.free rfl) (E.call rfl go18 rfl (newX_ok)) rfl ?_
        rintro _ _ ⟨rfl, rfl⟩
        refine ⟨.inr (by repeat (first | exact Ent.refl _ | (apply Ent.cons; (· repeat (first | exact Pick.here | (refine Pick.sl ?_; (· repeat (first | exact List.Mem.head _ | assumption | apply List.Mem.tail))) | apply Pick.there))) | (refine Ent.trans (Ent.drop _ _) ?_))), ?_⟩
        refine RH.one (i := 2) (by kernel_rfl) ?_
        refine RHone.eff rfl (Wanted.free rfl) (E.call rfl go17 rfl (writeX_ok (X := []) (b := [1]) (by repeat (first | exact List.Mem.head _ | assumption | apply List.Mem.tail)) (by repeat (first | exact List.Mem.head _ | assumption | apply List.Mem.tail)) (by unfold Tab; repeat (first | exact List.Mem.head _ | assumption | apply List.Mem.tail)) (by first | omega | (simp; done) | (simp; omega)) (by first | omega | (simp; done) | (simp; omega)))) rfl ?_
        rintro _ _ ⟨a18, c18, rfl, rfl⟩
        refine ⟨.inr (by repeat (first | exact Ent.refl _ | (apply Ent.cons; (· repeat (first | exact Pick.here | (refine Pick.sl ?_; (· repeat (first | exact List.Mem.head _ | assumption | apply List.Mem.tail))) | apply Pick.there))) | (refine Ent.trans (Ent.drop _ _) ?_))), ?_⟩
        rw [List.nil_append]
        refine RH.one (i := 4) (by kernel_rfl) ?_
        refine RHone.eff rfl (Wanted.free rfl) (E.call rfl go17 rfl (writeX_ok (X := [1]) (b := x) (by repeat (first | exact List.Mem.head _ | assumption | apply List.Mem.tail)) (by repeat (first | exact List.Mem.head _ | assumption | apply List.Mem.tail)) (by unfold Tab; repeat (first | exact List.Mem.head _ | assumption | apply List.Mem.tail)) (by first | omega | (simp; done) | (simp; omega)) (by first | omega | (simp; done) | (simp; omega)))) rfl ?_
        rintro _ _ ⟨a20, c20, rfl, rfl⟩
        refine ⟨.inr (by repeat (first | exact Ent.refl _ | (apply Ent.cons; (· repeat (first | exact Pick.here | (refine Pick.sl ?_; (· repeat (first | exact List.Mem.head _ | assumption | apply List.Mem.tail))) | apply Pick.there))) | (refine Ent.trans (Ent.drop _ _) ?_))), ?_⟩
        refine RH.one (i := 6) (by kernel_rfl) ?_
        refine RHone.eff rfl (Wanted.free rfl) (E.call rfl go17 rfl (writeX_ok (X := ([1] ++ x)) (b := y) (by repeat (first | exact List.Mem.head _ | assumption | apply List.Mem.tail)) (by repeat (first | exact List.Mem.head _ | assumption | apply List.Mem.tail)) (by unfold Tab; repeat (first | exact List.Mem.head _ | assumption | apply List.Mem.tail)) (by first | omega | (simp; done) | (simp; omega)) (by first | omega | (simp; done) | (simp; omega)))) rfl ?_
        rintro _ _ ⟨a22, c22, rfl, rfl⟩
        refine ⟨.inr (by repeat (first | exact Ent.refl _ | (apply Ent.cons; (· repeat (first | exact Pick.here | (refine Pick.sl ?_; (· repeat (first | exact List.Mem.head _ | assumption | apply List.Mem.tail))) | apply Pick.there))) | (refine Ent.trans (Ent.drop _ _) ?_))), ?_⟩
        refine RH.one (i := 8) (by kernel_rfl) ?_
        refine RHone.eff rfl (Wanted.free rfl) (E.storeWhole rfl rfl rfl (dg_len (feed_length _ _ first_length)) sz33 (by repeat (first | exact Pick.here | assumption | apply Pick.there)) (dg_one rfl rfl) (by first | rfl | (rw [dg_len (feed_length _ _ first_length)]))) rfl ?_
        rintro _ _ rfl
        refine ⟨.inl (by kernel_rfl), ?_⟩
        refine RH.done (by kernel_rfl) ?_
        refine SG.weaken (rest ⟨b8, a22, c22⟩ trivial) ?_ ?_
        · repeat (first | exact EnvLe.nil _ | refine EnvLe.cons rfl ?_)
        · repeat (first | exact Ent.refl _ | (apply Ent.cons; (· repeat (first | exact Pick.here | (refine Pick.ro ?_; (· repeat (first | exact List.Mem.head _ | assumption | apply List.Mem.tail))) | apply Pick.there))) | (refine Ent.trans (Ent.drop _ _) ?_))

end Go.Proofs.YtbljfilkdhgcnaaDoor
