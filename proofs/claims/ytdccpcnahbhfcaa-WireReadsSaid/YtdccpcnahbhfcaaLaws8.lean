/- The walk of the statement that the reader reads as the reference does. -/
import Derived.Test.YtdccpcnahbhfcaaLaws7
import Derived.Test.YtdccpcnahbhfcaaMore3
namespace Go.Proofs.Ytdccpcnahbhfcaa
open Go.Wk Go.Wire

set_option maxRecDepth 100000 in
theorem reads_law {κ : World} {L : List Assn} {a a1 am : Option Addr} {n0 c n1 c1 nm cm : Nat} {raw : List UInt8} {l : List Val} {ms : List Int} (hr : Sl R8 a n0 c raw ∈ L) (hm : Sl RVal a1 n1 c1 l ∈ L) (hmo : Sl RI am nm cm ms ∈ L) (at_ : Int) (ht1 : -9223372036854775808 ≤ at_) (ht2 : at_ ≤ 9223372036854775807) (y : UInt8) :
    Ctr Try.prog 6 #[.slice a n0 c, .slice a1 n1 c1, vI at_, v8 y, .slice am nm cm] κ L (fun v M => v = vB true ∧ M = L) := by
  refine Ctr.enter (vs := [.slice a n0 c, .slice a1 n1 c1, vI at_, v8 y, .slice am nm cm]) (m := 109) Try.func6 rfl rfl rfl ?_
  refine SG.fact (fun w hs => Sl.vok hs hm) fun hvok => ?_
  have hsm := fewV_small hvok
  have h12 : (fewV l).length ≤ 12 := fewV_length
  refine SG.fact (fun w hs => Sep.iok hs hmo) fun hint => ?_
  refine SG.sl hmo fun hlm _ _ => ?_
  subst hlm
  have hlen := encVs_length hsm
  refine SG.seq ?_
  refine SG.region ?_
  refine RL.val (Wanted.free rfl) (V.assign rfl rfl) rfl ?_
  refine RL.nil ?_
  refine SG.seq ?_
  refine SG.region ?_
  refine RL.val (Wanted.free rfl) (V.move rfl rfl) rfl ?_
  refine RL.eff (Wanted.free rfl) (E.call rfl go11 rfl (few2_ok (by repeat (first | exact List.Mem.head _ | assumption | apply List.Mem.tail)))) rfl ?_
  rintro _ _ ⟨a11, k11, c11, rfl, rfl⟩
  refine RL.publish (a := a11) (by repeat (first | exact Pick.here | apply Pick.there)) ?_
  refine RL.val (Wanted.free rfl) (V.assign rfl rfl) rfl ?_
  refine RL.nil ?_
  refine SG.seq ?_
  refine SG.region ?_
  refine RL.val (Wanted.free rfl) (V.move rfl rfl) rfl ?_
  refine RL.eff (Wanted.free rfl) (E.call rfl go16 rfl (written_ok (by repeat (first | exact List.Mem.head _ | assumption | apply List.Mem.tail)) hsm (by omega))) rfl ?_
  rintro _ _ ⟨a12, k12, c12, rfl, rfl⟩
  refine RL.buf (a := a12) (by repeat (first | exact Pick.here | apply Pick.there)) fun h12b _ _ => ?_
  subst h12b
  refine RL.val (Wanted.free rfl) (V.assign rfl rfl) rfl ?_
  refine RL.nil ?_
  refine SG.seq ?_
  refine SG.seq ?_
  refine SG.join2 (ι := List UInt8) (fun r1 => [(0, .slice a n0 c), (4, .slice am ms.length cm), (11, .slice a11 k11 c11), (12, .slice a12 (encVs (fewV l)).length c12)]) (fun r1 => Buf R8 5 a12 (encVs (fewV l)).length c12 r1 :: Sl RVal a11 k11 c11 (fewV l) :: L) (fun r1 => r1.length ≤ 4000) ?_ (fun rest => ?_)
  · rintro r1 hr1
    try dsimp only
    refine SG.seq ?_
    refine SG.region ?_
    refine RL.val (Wanted.free rfl) (V.move rfl rfl) rfl ?_
    refine RL.eff (Wanted.free rfl) (E.call rfl go20 rfl (few_ok (by repeat (first | exact List.Mem.head _ | assumption | apply List.Mem.tail)) (by omega) (by omega))) rfl ?_
    rintro _ _ ⟨a37, k37, c37, rfl, rfl⟩
    have h60 : (raw.take (Int.toNat 60)).length ≤ 4000 := by rw [List.length_take]; have : Int.toNat 60 = 60 := rfl; omega
    generalize raw.take (Int.toNat 60) = r0 at *
    refine RL.publish (a := a37) (by repeat (first | exact Pick.here | apply Pick.there)) ?_
    refine RL.publish (a := a12) (by repeat (first | exact Pick.here | apply Pick.there)) ?_
    refine RL.val (Wanted.free rfl) (V.move rfl rfl) rfl ?_
    refine RL.eff (Wanted.free rfl) (E.litN (xs := [.tmp 37, .tmp 38]) rfl rfl rfl el55.slice ze23 rfl (by decide) (by decide) rfl (by simp [Value.cells])) rfl ?_
    rintro _ _ ⟨b13, rfl, rfl⟩
    refine RL.ent (Buf.of_els (T := Rep.slice R8) (b := b13) (l := [r0, r1]) (m := 2) Pick.here rfl rfl (by decide) fun z h H => rows_two_sl (a := a37) (a' := a12) (l := r0) (l' := r1) (by repeat (first | exact List.Mem.head _ | assumption | apply List.Mem.tail)) (by repeat (first | exact List.Mem.head _ | assumption | apply List.Mem.tail)) H) ?_
    refine RL.publish (a := some ⟨b13, 0, none⟩) Pick.here ?_
    refine RL.val (Wanted.free rfl) (V.assign rfl rfl) rfl ?_
    refine RL.nil ?_
    refine SG.seq ?_
    refine SG.seq ?_
    refine SG.region ?_
    refine RL.val (Wanted.free rfl) (V.assign rfl rfl) rfl ?_
    refine RL.nil ?_
    refine SG.block ?_
    generalize fewV l = fv at *
    refine SG.sl (T := RVal) (l := fv) (a := a11) (by repeat (first | exact List.Mem.head _ | assumption | apply List.Mem.tail)) fun hfl _ _ => ?_
    subst hfl
    refine SG.weaken (SG.loop2 (fun m al M => ∃ q : Nat, q ≤ 2 ∧ m = 2 - q ∧ al = [(4, .slice am ms.length cm), (11, .slice a11 fv.length c11), (13, .slice (some ⟨b13, 0, none⟩) 2 2), (14, vI q)] ∧ M = Sl (Rep.slice R8) (some ⟨b13, 0, none⟩) 2 2 [r0, r1] :: Sl RVal a11 fv.length c11 fv :: L) (m0 := _) ⟨0, by omega, rfl, rfl, rfl⟩ ?_) ?_ ?_
    rotate_left
    · repeat (first | exact EnvLe.nil _ | refine EnvLe.cons rfl ?_)
    · repeat (first | exact Ent.refl _ | (apply Ent.cons; (· repeat (first | exact Pick.here | (refine Pick.sl ?_; (· repeat (first | exact List.Mem.head _ | assumption | apply List.Mem.tail))) | apply Pick.there))) | (refine Ent.trans (Ent.drop _ _) ?_))
    rintro _ _ _ ⟨q, hq, rfl, rfl, rfl⟩ ih0
    refine SG.seq ?_
    refine SG.seq ?_
    refine SG.region ?_
    refine RL.val (Wanted.free rfl) (V.move rfl rfl) rfl ?_
    refine RL.cmp (Wanted.free rfl) (V.bin rfl rfl rfl B.lss) rfl (fun h15 => ?_) (fun h15 => ?_)
    · skip
      refine RL.nil ?_
      refine SG.cond_true rfl ?_
      refine SG.skip ?_
      refine SG.seq ?_
      refine SG.block ?_
      refine SG.seq ?_
      obtain ⟨rq, hrqe⟩ : ∃ x, ([r0, r1] : List (List UInt8))[q]? = some x := ⟨_, List.getElem?_eq_getElem (by simp; omega)⟩
      have hrq : rq.length ≤ 4000 := by have := List.mem_of_getElem? hrqe; simp at this; rcases this with rfl | rfl <;> assumption
      refine SG.elem (T := Rep.slice R8) (j := q) (l := [r0, r1]) (a := some ⟨b13, 0, none⟩) (y := rq) (by repeat (first | exact List.Mem.head _ | assumption | apply List.Mem.tail)) hrqe fun us hus => ?_
      refine SG.openSl Pick.here fun aq mq cq hus2 => ?_
      subst hus2
      refine SG.region ?_
      refine RL.val (Wanted.free rfl) (V.move rfl rfl) rfl ?_
      refine RL.val (Wanted.free rfl) (V.move rfl rfl) rfl ?_
      refine RL.val (Wanted.free rfl) (V.indexSl rfl el55.slice rfl rfl (by repeat (first | exact List.Mem.head _ | assumption | apply List.Mem.tail)) (by first | rfl | omega) (by simp; omega)) rfl ?_
      refine RL.val (Wanted.free rfl) (V.loadAt1 rfl on23 rfl (by repeat (first | exact List.Mem.head _ | assumption | apply List.Mem.tail))) rfl ?_
      refine RL.eff (Wanted.free rfl) (E.call rfl go19 rfl (newReader_sl (a := aq) (by repeat (first | exact List.Mem.head _ | assumption | apply List.Mem.tail)) (by omega))) rfl ?_
      rintro _ _ ⟨br, rfl, rfl⟩
      refine RL.val (Wanted.free rfl) (V.assign rfl rfl) rfl ?_
      refine RL.nil ?_
      refine SG.seq ?_
      refine SG.region ?_
      refine RL.val (Wanted.free rfl) (V.move rfl rfl) rfl ?_
      refine RL.val (Wanted.free rfl) (V.move rfl rfl) rfl ?_
      refine RL.val (Wanted.free rfl) (V.indexSl rfl el55.slice rfl rfl (by repeat (first | exact List.Mem.head _ | assumption | apply List.Mem.tail)) (by first | rfl | omega) (by simp; omega)) rfl ?_
      refine RL.val (Wanted.free rfl) (V.loadAt1 rfl on23 rfl (by repeat (first | exact List.Mem.head _ | assumption | apply List.Mem.tail))) rfl ?_
      refine RL.val (Wanted.free rfl) (V.buildS [(0, _)] rfl bs57 (by exact ⟨rfl, ⟨_, rfl, rfl⟩, trivial⟩) rfl) rfl ?_
      refine RL.eff (Wanted.free rfl) (E.alloc rfl ze57) rfl ?_
      rintro _ _ ⟨b16, rfl, rfl⟩
      refine RL.eff (Wanted.free rfl) (E.storeAgg rfl rfl rfl rfl sz57 (by repeat (first | exact Pick.here | apply Pick.there)) (by first | (simp [Value.oneCell']; done) | (simp [setAt, Value.oneCell']; done)) (by first | (simp; done) | (simp [setAt]; done))) rfl ?_
      rintro _ _ rfl
      refine RL.nil ?_
      refine SG.seq ?_
      refine SG.seq ?_
      refine SG.region ?_
      refine RL.val (Wanted.free rfl) (V.move rfl rfl) rfl ?_
      refine RL.cmpF (Wanted.free rfl) (V.eqlPtrNil rfl up42 rfl rfl) rfl (by simp) ?_
      refine RL.nil ?_
      refine SG.cond_false rfl ?_
      refine SG.skip ?_
      refine SG.seq ?_
      refine SG.region ?_
      refine RL.val (Wanted.free rfl) (V.assign rfl rfl) rfl ?_
      refine RL.nil ?_
      refine SG.block ?_
      refine SG.weaken (SG.loop2 (fun m al M => ∃ (i : Nat) (l2 : List UInt8) (e2 : Int) (ax : Option Addr) (mx cx : Nat), l2.length ≤ 4000 ∧ i ≤ fv.length ∧ m = fv.length - i ∧ al = [(4, .slice am ms.length cm), (11, .slice a11 fv.length c11), (13, .slice (some ⟨b13, 0, none⟩) 2 2), (14, vI q), (15, ptr br 0), (16, ptr b16 0), (17, vI i)] ∧ M = Rdr br l2 e2 :: Blk b16 57 [.slice ax mx cx, vI e2] :: Sl R8 ax mx cx l2 :: Sl (Rep.slice R8) (some ⟨b13, 0, none⟩) 2 2 [r0, r1] :: Sl RVal a11 fv.length c11 fv :: L) (m0 := _) ⟨0, rq, 0, aq, mq, cq, hrq, by omega, rfl, rfl, rfl⟩ ?_) ?_ ?_
      rotate_left
      · repeat (first | exact EnvLe.nil _ | refine EnvLe.cons rfl ?_)
      · repeat (first | exact Ent.refl _ | (apply Ent.cons; (· repeat (first | exact Pick.here | (refine Pick.sl ?_; (· repeat (first | exact List.Mem.head _ | assumption | apply List.Mem.tail))) | apply Pick.there))) | (refine Ent.trans (Ent.drop _ _) ?_))
      rintro _ _ _ ⟨i, l2, e2, ax, mx, cx, hl2, hi, rfl, rfl, rfl⟩ ih1
      refine SG.seq ?_
      refine SG.seq ?_
      refine SG.region ?_
      refine RL.val (Wanted.free rfl) (V.move rfl rfl) rfl ?_
      refine RL.val (Wanted.free rfl) (V.move rfl rfl) rfl ?_
      refine RL.val (Wanted.free rfl) (V.len rfl rfl el22.under rfl) rfl ?_
      refine RL.cmp (Wanted.free rfl) (V.bin rfl rfl rfl B.lss) rfl (fun h34 => ?_) (fun h34 => ?_)
      · skip
        refine RL.nil ?_
        refine SG.cond_true rfl ?_
        refine SG.skip ?_
        refine SG.seq ?_
        refine SG.block ?_
        refine SG.seq ?_
        refine SG.region ?_
        refine RL.val (Wanted.free rfl) (V.assign rfl rfl) rfl ?_
        refine RL.nil ?_
        refine SG.seq ?_
        refine SG.seq ?_
        refine SG.join2 (ι := Int) (fun mm => [(4, .slice am ms.length cm), (11, .slice a11 fv.length c11), (13, .slice (some ⟨b13, 0, none⟩) 2 2), (14, vI q), (15, ptr br 0), (16, ptr b16 0), (17, vI i), (18, vI mm)]) (fun mm => Rdr br l2 e2 :: Blk b16 57 [.slice ax mx cx, vI e2] :: Sl R8 ax mx cx l2 :: Sl (Rep.slice R8) (some ⟨b13, 0, none⟩) 2 2 [r0, r1] :: Sl RVal a11 fv.length c11 fv :: L) (fun mm => -9223372036854775808 ≤ mm ∧ mm ≤ 9223372036854775807) ?_ (fun rest => ?_)
        · rintro mm hmm
          try dsimp only
          refine SG.seq ?_
          refine SG.elem (T := RVal) (j := i) (l := fv) (by repeat (first | exact List.Mem.head _ | assumption | apply List.Mem.tail)) (List.getElem?_eq_getElem (by omega)) fun us hus => ?_
          refine SG.openVal (by repeat (first | exact Pick.here | apply Pick.there)) fun a5 m5 c5 hus2 hok => ?_
          subst hus2
          refine SG.region ?_
          refine RL.val (Wanted.free rfl) (V.move rfl rfl) rfl ?_
          refine RL.val (Wanted.free rfl) (V.move rfl rfl) rfl ?_
          refine RL.val (Wanted.free rfl) (V.move rfl rfl) rfl ?_
          refine RL.val (Wanted.free rfl) (V.indexSl rfl el22.slice rfl rfl (by repeat (first | exact List.Mem.head _ | assumption | apply List.Mem.tail)) (by first | rfl | omega) (by omega)) rfl ?_
          refine RL.val (Wanted.free rfl) (V.loadAt rfl ag34 rfl (by repeat (first | exact List.Mem.head _ | assumption | apply List.Mem.tail)) rfl) rfl ?_
          refine RL.val (Wanted.free rfl) (V.move rfl rfl) rfl ?_
          refine RL.eff (Wanted.free rfl) (E.call rfl go24 rfl (read_ok _ mm (by repeat (first | exact Pick.here | apply Pick.there)) hmm.1 hmm.2 (by omega))) rfl ?_
          rintro _ _ ⟨l3, e3, w, aw, mw, cw, hr3, rfl, rfl⟩
          refine RL.eff (Wanted.free rfl) (E.alloc rfl ze34) rfl ?_
          rintro _ _ ⟨b19, rfl, rfl⟩
          refine RL.eff (Wanted.free rfl) (E.storeAgg rfl rfl rfl rfl sz34 (by repeat (first | exact Pick.here | apply Pick.there)) (by first | (simp [Value.oneCell']; done) | (simp [setAt, Value.oneCell']; done)) (by first | (simp; done) | (simp [setAt]; done))) rfl ?_
          rintro _ _ rfl
          refine RL.nil ?_
          refine SG.seq ?_
          refine SG.join (ι := Nat × Nat × (Option Addr × Nat × Nat) × (Option Addr × Nat × Nat)) (fun ⟨x20, x21, ⟨a3, m3, c3⟩, ⟨a4, m4, c4⟩⟩ => [(4, .slice am ms.length cm), (11, .slice a11 fv.length c11), (13, .slice (some ⟨b13, 0, none⟩) 2 2), (14, vI q), (15, ptr br 0), (16, ptr b16 0), (17, vI i), (19, ptr b19 0), (20, ptr x20 0), (21, ptr x21 0)]) (fun ⟨x20, x21, ⟨a3, m3, c3⟩, ⟨a4, m4, c4⟩⟩ => Blk x20 57 [.slice a3 m3 c3, vI e3] :: Blk x21 34 [v8 w.kind, v64 w.u, vI w.n, vB w.b, vS w.s, .slice a4 m4 c4] :: Blk b19 34 [v8 w.kind, v64 w.u, vI w.n, vB w.b, vS w.s, .slice aw mw cw] :: Rdr br l3 e3 :: Blk b16 57 [.slice ax mx cx, vI e2] :: Sl R8 a3 m3 c3 l3 :: Sl RI a4 m4 c4 w.l :: Sl RI aw mw cw w.l :: Sl (Rep.slice R8) (some ⟨b13, 0, none⟩) 2 2 [r0, r1] :: Sl RVal a11 fv.length c11 fv :: L) (fun ⟨x20, x21, ⟨a3, m3, c3⟩, ⟨a4, m4, c4⟩⟩ => True) ?_ (fun rest => ?_)
          · rintro ⟨x20, x21, ⟨a3, m3, c3⟩, ⟨a4, m4, c4⟩⟩ _
            try dsimp only
            refine SG.seq ?_
            refine SG.region ?_
            refine RL.val (Wanted.free rfl) (V.loadAgg (us := _) rfl ag57 rfl (by repeat (first | exact Pick.here | apply Pick.there)) rfl rfl) rfl ?_
            refine RL.eff (Wanted.free rfl) (E.storeAgg rfl rfl rfl rfl sz57 (by repeat (first | exact Pick.here | apply Pick.there)) (by first | (simp [Value.oneCell']; done) | (simp [setAt, Value.oneCell']; done)) (by first | (simp; done) | (simp [setAt]; done))) rfl ?_
            rintro _ _ rfl
            refine RL.nil ?_
            refine SG.seq ?_
            refine SG.drawL 20 wide rfl rfl ?_
            refine RH.val 0 rfl (by kernel_rfl) (by kernel_rfl) (by kernel_rfl) (Wanted.free rfl) (V.loadAgg (us := [v8 w.kind, v64 w.u, vI w.n, vB w.b, vS w.s, .slice aw mw cw]) rfl ag34 rfl (by repeat (first | exact Pick.here | apply Pick.there)) rfl rfl) (Ent.refl _) rfl ?_
            refine RH.val 1 rfl (by kernel_rfl) (by kernel_rfl) (by kernel_rfl) (Wanted.free rfl) (V.loadAgg (us := [v8 w.kind, v64 w.u, vI w.n, vB w.b, vS w.s, .slice a4 m4 c4]) rfl ag34 rfl (by repeat (first | exact Pick.here | apply Pick.there)) rfl rfl) (Ent.refl _) rfl ?_
            refine RH.one (i := 2) (by kernel_rfl) ?_
            refine RHone.eff rfl (Wanted.free rfl) (E.call rfl go18 rfl (same_true w w (a := aw) (a' := a4) (by repeat (first | exact List.Mem.head _ | assumption | apply List.Mem.tail)) (by repeat (first | exact List.Mem.head _ | assumption | apply List.Mem.tail)) (sameV_refl _))) rfl ?_
            rintro _ _ ⟨rfl, rfl⟩
            refine ⟨(by repeat (first | exact Ent.refl _ | (apply Ent.cons; (· repeat (first | exact Pick.here | (refine Pick.sl ?_; (· repeat (first | exact List.Mem.head _ | assumption | apply List.Mem.tail))) | apply Pick.there))) | (refine Ent.trans (Ent.drop _ _) ?_))), ?_⟩
            refine RH.val 3 rfl (by kernel_rfl) (by kernel_rfl) (by kernel_rfl) (Wanted.free rfl) (V.not rfl rfl) (by repeat (first | exact Ent.refl _ | (apply Ent.cons; (· repeat (first | exact Pick.here | (refine Pick.sl ?_; (· repeat (first | exact List.Mem.head _ | assumption | apply List.Mem.tail))) | apply Pick.there))) | (refine Ent.trans (Ent.drop _ _) ?_))) rfl ?_
            refine RH.val 4 rfl (by kernel_rfl) (by kernel_rfl) (by kernel_rfl) (Wanted.free rfl) (V.move rfl rfl) (by repeat (first | exact Ent.refl _ | (apply Ent.cons; (· repeat (first | exact Pick.here | (refine Pick.sl ?_; (· repeat (first | exact List.Mem.head _ | assumption | apply List.Mem.tail))) | apply Pick.there))) | (refine Ent.trans (Ent.drop _ _) ?_))) rfl ?_
            refine RH.val 5 rfl (by kernel_rfl) (by kernel_rfl) (by kernel_rfl) (Wanted.yes rfl rfl rfl rfl) (V.move rfl rfl) (by repeat (first | exact Ent.refl _ | (apply Ent.cons; (· repeat (first | exact Pick.here | (refine Pick.sl ?_; (· repeat (first | exact List.Mem.head _ | assumption | apply List.Mem.tail))) | apply Pick.there))) | (refine Ent.trans (Ent.drop _ _) ?_))) rfl ?_
            refine RH.val 6 rfl (by kernel_rfl) (by kernel_rfl) (by kernel_rfl) (Wanted.yes rfl rfl rfl rfl) (V.nilCheck rfl rfl) (by repeat (first | exact Ent.refl _ | (apply Ent.cons; (· repeat (first | exact Pick.here | (refine Pick.sl ?_; (· repeat (first | exact List.Mem.head _ | assumption | apply List.Mem.tail))) | apply Pick.there))) | (refine Ent.trans (Ent.drop _ _) ?_))) rfl ?_
            refine RH.val 7 rfl (by kernel_rfl) (by kernel_rfl) (by kernel_rfl) (Wanted.yes rfl rfl rfl rfl) (V.fieldAddr rfl rfl fo50_0) (by repeat (first | exact Ent.refl _ | (apply Ent.cons; (· repeat (first | exact Pick.here | (refine Pick.sl ?_; (· repeat (first | exact List.Mem.head _ | assumption | apply List.Mem.tail))) | apply Pick.there))) | (refine Ent.trans (Ent.drop _ _) ?_))) rfl ?_
            refine RH.val 9 rfl (by kernel_rfl) (by kernel_rfl) (by kernel_rfl) (Wanted.yes rfl rfl rfl rfl) (V.fieldAddr rfl rfl fo57_1) (by repeat (first | exact Ent.refl _ | (apply Ent.cons; (· repeat (first | exact Pick.here | (refine Pick.sl ?_; (· repeat (first | exact List.Mem.head _ | assumption | apply List.Mem.tail))) | apply Pick.there))) | (refine Ent.trans (Ent.drop _ _) ?_))) rfl ?_
            refine RH.val 10 rfl (by kernel_rfl) (by kernel_rfl) (by kernel_rfl) (Wanted.yes rfl rfl rfl rfl) (V.load rfl on46 rfl (by repeat (first | exact Pick.here | apply Pick.there)) rfl) (by repeat (first | exact Ent.refl _ | (apply Ent.cons; (· repeat (first | exact Pick.here | (refine Pick.sl ?_; (· repeat (first | exact List.Mem.head _ | assumption | apply List.Mem.tail))) | apply Pick.there))) | (refine Ent.trans (Ent.drop _ _) ?_))) rfl ?_
            refine RH.one (i := 8) (by kernel_rfl) ?_
            refine RHone.eff rfl (Wanted.yes rfl rfl rfl rfl) (E.call rfl go22 rfl (rErr_ok (by repeat (first | exact Pick.here | apply Pick.there)))) rfl ?_
            rintro _ _ ⟨rfl, rfl⟩
            refine ⟨(by repeat (first | exact Ent.refl _ | (apply Ent.cons; (· repeat (first | exact Pick.here | (refine Pick.sl ?_; (· repeat (first | exact List.Mem.head _ | assumption | apply List.Mem.tail))) | apply Pick.there))) | (refine Ent.trans (Ent.drop _ _) ?_))), ?_⟩
            refine RH.cmpF 11 rfl (by kernel_rfl) (by kernel_rfl) (by kernel_rfl) (Wanted.yes rfl rfl rfl rfl) (V.bin rfl rfl rfl B.neq) (by repeat (first | exact Ent.refl _ | (apply Ent.cons; (· repeat (first | exact Pick.here | (refine Pick.sl ?_; (· repeat (first | exact List.Mem.head _ | assumption | apply List.Mem.tail))) | apply Pick.there))) | (refine Ent.trans (Ent.drop _ _) ?_))) rfl (fun h => h rfl) ?_
            refine RH.val 12 rfl (by kernel_rfl) (by kernel_rfl) (by kernel_rfl) (Wanted.free rfl) (V.pick_false rfl rfl rfl) (by repeat (first | exact Ent.refl _ | (apply Ent.cons; (· repeat (first | exact Pick.here | (refine Pick.sl ?_; (· repeat (first | exact List.Mem.head _ | assumption | apply List.Mem.tail))) | apply Pick.there))) | (refine Ent.trans (Ent.drop _ _) ?_))) rfl ?_
            refine RH.val 13 rfl (by kernel_rfl) (by kernel_rfl) (by kernel_rfl) (Wanted.free rfl) (V.move rfl rfl) (by repeat (first | exact Ent.refl _ | (apply Ent.cons; (· repeat (first | exact Pick.here | (refine Pick.sl ?_; (· repeat (first | exact List.Mem.head _ | assumption | apply List.Mem.tail))) | apply Pick.there))) | (refine Ent.trans (Ent.drop _ _) ?_))) rfl ?_
            refine RH.val 14 rfl (by kernel_rfl) (by kernel_rfl) (by kernel_rfl) (Wanted.yes rfl rfl rfl rfl) (V.move rfl rfl) (by repeat (first | exact Ent.refl _ | (apply Ent.cons; (· repeat (first | exact Pick.here | (refine Pick.sl ?_; (· repeat (first | exact List.Mem.head _ | assumption | apply List.Mem.tail))) | apply Pick.there))) | (refine Ent.trans (Ent.drop _ _) ?_))) rfl ?_
            refine RH.val 16 rfl (by kernel_rfl) (by kernel_rfl) (by kernel_rfl) (Wanted.yes rfl rfl rfl rfl) (V.loadAgg (us := [.slice a3 m3 c3, vI e3]) rfl ag57 rfl (by repeat (first | exact Pick.here | apply Pick.there)) rfl rfl) (by repeat (first | exact Ent.refl _ | (apply Ent.cons; (· repeat (first | exact Pick.here | (refine Pick.sl ?_; (· repeat (first | exact List.Mem.head _ | assumption | apply List.Mem.tail))) | apply Pick.there))) | (refine Ent.trans (Ent.drop _ _) ?_))) rfl ?_
            refine RH.one (i := 15) (by kernel_rfl) ?_
            refine RHone.eff rfl (Wanted.yes rfl rfl rfl rfl) (E.call rfl go25 rfl (rEnd_ok (by repeat (first | exact Pick.here | apply Pick.there)))) rfl ?_
            rintro _ _ ⟨rfl, rfl⟩
            refine ⟨(by repeat (first | exact Ent.refl _ | (apply Ent.cons; (· repeat (first | exact Pick.here | (refine Pick.sl ?_; (· repeat (first | exact List.Mem.head _ | assumption | apply List.Mem.tail))) | apply Pick.there))) | (refine Ent.trans (Ent.drop _ _) ?_))), ?_⟩
            refine RH.one (i := 17) (by kernel_rfl) ?_
            refine RHone.eff rfl (Wanted.yes rfl rfl rfl rfl) (E.call rfl go27 rfl (xEnd_ok (by repeat (first | exact List.Mem.head _ | assumption | apply List.Mem.tail)))) rfl ?_
            rintro _ _ ⟨rfl, rfl⟩
            refine ⟨(by repeat (first | exact Ent.refl _ | (apply Ent.cons; (· repeat (first | exact Pick.here | (refine Pick.sl ?_; (· repeat (first | exact List.Mem.head _ | assumption | apply List.Mem.tail))) | apply Pick.there))) | (refine Ent.trans (Ent.drop _ _) ?_))), ?_⟩
            refine RH.cmpF 18 rfl (by kernel_rfl) (by kernel_rfl) (by kernel_rfl) (Wanted.yes rfl rfl rfl rfl) (V.bin rfl rfl rfl B.neq) (by repeat (first | exact Ent.refl _ | (apply Ent.cons; (· repeat (first | exact Pick.here | (refine Pick.sl ?_; (· repeat (first | exact List.Mem.head _ | assumption | apply List.Mem.tail))) | apply Pick.there))) | (refine Ent.trans (Ent.drop _ _) ?_))) rfl (fun h => h rfl) ?_
            refine RH.val 19 rfl (by kernel_rfl) (by kernel_rfl) (by kernel_rfl) (Wanted.free rfl) (V.pick_false rfl rfl rfl) (by repeat (first | exact Ent.refl _ | (apply Ent.cons; (· repeat (first | exact Pick.here | (refine Pick.sl ?_; (· repeat (first | exact List.Mem.head _ | assumption | apply List.Mem.tail))) | apply Pick.there))) | (refine Ent.trans (Ent.drop _ _) ?_))) rfl ?_
            refine RH.done (by kernel_rfl) ?_
            refine SG.cond_false rfl ?_
            refine SG.skip ?_
            refine SG.inBlock ?_
            refine SG.region ?_
            refine RL.val (Wanted.free rfl) (V.move rfl rfl) rfl ?_
            refine RL.val (Wanted.free rfl) (V.bin rfl rfl rfl (B.addI (by omega) (by omega))) rfl ?_
            refine RL.val (Wanted.free rfl) (V.assign rfl rfl) rfl ?_
            refine RL.nil ?_
            refine SG.weaken (ih1 _ _ _ ?_ ⟨i + 1, l3, e3, a3, m3, c3, by have := rdV_len hr3; omega, by omega, rfl, rfl, rfl⟩) ?_ ?_
            · omega
            · repeat (first | exact EnvLe.nil _ | refine EnvLe.cons rfl ?_)
            · repeat (first | exact Ent.refl _ | (apply Ent.cons; (· repeat (first | exact Pick.here | (refine Pick.sl ?_; (· repeat (first | exact List.Mem.head _ | assumption | apply List.Mem.tail))) | apply Pick.there))) | (refine Ent.trans (Ent.drop _ _) ?_))
          · skip
            refine SG.drawL 14 wide rfl rfl ?_
            refine RH.val 0 rfl (by kernel_rfl) (by kernel_rfl) (by kernel_rfl) (Wanted.free rfl) (V.loadAgg (us := [.slice ax mx cx, vI e2]) rfl ag57 rfl (by repeat (first | exact Pick.here | apply Pick.there)) rfl rfl) (Ent.refl _) rfl ?_
            refine RH.val 1 rfl (by kernel_rfl) (by kernel_rfl) (by kernel_rfl) (Wanted.free rfl) (V.move rfl rfl) (Ent.refl _) rfl ?_
            refine RH.val 2 rfl (by kernel_rfl) (by kernel_rfl) (by kernel_rfl) (Wanted.free rfl) (V.move rfl rfl) (Ent.refl _) rfl ?_
            refine RH.val 3 rfl (by kernel_rfl) (by kernel_rfl) (by kernel_rfl) (Wanted.free rfl) (V.indexSl rfl el22.slice rfl rfl (by repeat (first | exact List.Mem.head _ | assumption | apply List.Mem.tail)) (by first | rfl | omega) (by omega)) (Ent.refl _) rfl ?_
            refine RH.val 4 rfl (by kernel_rfl) (by kernel_rfl) (by kernel_rfl) (Wanted.free rfl) (V.loadAt rfl ag34 rfl (by repeat (first | exact List.Mem.head _ | assumption | apply List.Mem.tail)) rfl) (Ent.refl _) rfl ?_
            refine RH.val 5 rfl (by kernel_rfl) (by kernel_rfl) (by kernel_rfl) (Wanted.free rfl) (V.move rfl rfl) (Ent.refl _) rfl ?_
            refine RH.three (i := 6) (j := 10) (l := 11) (by kernel_rfl) ?_ ?_ ?_
            · skip
              refine RHone.eff rfl (Wanted.free rfl) (E.call rfl go26 rfl (expected_ok _ mm (a0 := ax) (by repeat (first | exact List.Mem.head _ | assumption | apply List.Mem.tail)) hmm.1 hmm.2 (by omega))) rfl ?_
              rintro _ _ ⟨l4, e4, w4, a4, m4, c4, a3, m3, c3, hr4, rfl, rfl⟩
              rw [hr3] at hr4
              cases hr4
              refine ⟨(by repeat (first | exact Ent.refl _ | (apply Ent.cons; (· repeat (first | exact Pick.here | (refine Pick.sl ?_; (· repeat (first | exact List.Mem.head _ | assumption | apply List.Mem.tail))) | apply Pick.there))) | (refine Ent.trans (Ent.drop _ _) ?_))), ?_⟩
              refine RH.val 7 rfl (by kernel_rfl) (by kernel_rfl) (by kernel_rfl) (Wanted.free rfl) (V.move rfl rfl) (by repeat (first | exact Ent.refl _ | (apply Ent.cons; (· repeat (first | exact Pick.here | (refine Pick.sl ?_; (· repeat (first | exact List.Mem.head _ | assumption | apply List.Mem.tail))) | apply Pick.there))) | (refine Ent.trans (Ent.drop _ _) ?_))) rfl ?_
              refine RH.val 8 rfl (by kernel_rfl) (by kernel_rfl) (by kernel_rfl) (Wanted.free rfl) (V.extract rfl rfl rfl) (by repeat (first | exact Ent.refl _ | (apply Ent.cons; (· repeat (first | exact Pick.here | (refine Pick.sl ?_; (· repeat (first | exact List.Mem.head _ | assumption | apply List.Mem.tail))) | apply Pick.there))) | (refine Ent.trans (Ent.drop _ _) ?_))) rfl ?_
              refine RH.val 9 rfl (by kernel_rfl) (by kernel_rfl) (by kernel_rfl) (Wanted.free rfl) (V.extract rfl rfl rfl) (by repeat (first | exact Ent.refl _ | (apply Ent.cons; (· repeat (first | exact Pick.here | (refine Pick.sl ?_; (· repeat (first | exact List.Mem.head _ | assumption | apply List.Mem.tail))) | apply Pick.there))) | (refine Ent.trans (Ent.drop _ _) ?_))) rfl ?_
              refine RH.two (i := 10) (j := 11) (by kernel_rfl) ?_ ?_
              · skip
                refine RHone.eff rfl (Wanted.free rfl) (E.alloc rfl ze57) rfl ?_
                rintro _ _ ⟨x20, rfl, rfl⟩
                refine ⟨(by repeat (first | exact Ent.refl _ | (apply Ent.cons; (· repeat (first | exact Pick.here | (refine Pick.sl ?_; (· repeat (first | exact List.Mem.head _ | assumption | apply List.Mem.tail))) | apply Pick.there))) | (refine Ent.trans (Ent.drop _ _) ?_))), ?_⟩
                refine RH.one (i := 11) (by kernel_rfl) ?_
                refine RHone.eff rfl (Wanted.free rfl) (E.alloc rfl ze34) rfl ?_
                rintro _ _ ⟨x21, rfl, rfl⟩
                refine ⟨(by repeat (first | exact Ent.refl _ | (apply Ent.cons; (· repeat (first | exact Pick.here | (refine Pick.sl ?_; (· repeat (first | exact List.Mem.head _ | assumption | apply List.Mem.tail))) | apply Pick.there))) | (refine Ent.trans (Ent.drop _ _) ?_))), ?_⟩
                refine RH.one (i := 12) (by kernel_rfl) ?_
                refine RHone.eff rfl (Wanted.free rfl) (E.storeAgg rfl rfl rfl rfl sz57 (by repeat (first | exact Pick.here | apply Pick.there)) (by first | (simp [Value.oneCell']; done) | (simp [setAt, Value.oneCell']; done)) (by first | (simp; done) | (simp [setAt]; done))) rfl ?_
                rintro _ _ rfl
                refine ⟨(by repeat (first | exact Ent.refl _ | (apply Ent.cons; (· repeat (first | exact Pick.here | (refine Pick.sl ?_; (· repeat (first | exact List.Mem.head _ | assumption | apply List.Mem.tail))) | apply Pick.there))) | (refine Ent.trans (Ent.drop _ _) ?_))), ?_⟩
                refine RH.one (i := 13) (by kernel_rfl) ?_
                refine RHone.eff rfl (Wanted.free rfl) (E.storeAgg rfl rfl rfl rfl sz34 (by repeat (first | exact Pick.here | apply Pick.there)) (by first | (simp [Value.oneCell']; done) | (simp [setAt, Value.oneCell']; done)) (by first | (simp; done) | (simp [setAt]; done))) rfl ?_
                rintro _ _ rfl
                refine ⟨(by repeat (first | exact Ent.refl _ | (apply Ent.cons; (· repeat (first | exact Pick.here | (refine Pick.sl ?_; (· repeat (first | exact List.Mem.head _ | assumption | apply List.Mem.tail))) | apply Pick.there))) | (refine Ent.trans (Ent.drop _ _) ?_))), ?_⟩
                refine RH.done (by kernel_rfl) ?_
                refine SG.weaken (rest (x20, x21, (a3, m3, c3), (a4, m4, c4)) trivial) ?_ ?_
                · repeat (first | exact EnvLe.nil _ | refine EnvLe.cons rfl ?_)
                · repeat (first | exact Ent.refl _ | (apply Ent.cons; (· repeat (first | exact Pick.here | (refine Pick.sl ?_; (· repeat (first | exact List.Mem.head _ | assumption | apply List.Mem.tail))) | apply Pick.there))) | (refine Ent.trans (Ent.drop _ _) ?_))
              · skip
                refine RHone.eff rfl (Wanted.free rfl) (E.alloc rfl ze34) rfl ?_
                rintro _ _ ⟨x21, rfl, rfl⟩
                refine ⟨(by repeat (first | exact Ent.refl _ | (apply Ent.cons; (· repeat (first | exact Pick.here | (refine Pick.sl ?_; (· repeat (first | exact List.Mem.head _ | assumption | apply List.Mem.tail))) | apply Pick.there))) | (refine Ent.trans (Ent.drop _ _) ?_))), ?_⟩
                refine RH.one (i := 10) (by kernel_rfl) ?_
                refine RHone.eff rfl (Wanted.free rfl) (E.alloc rfl ze57) rfl ?_
                rintro _ _ ⟨x20, rfl, rfl⟩
                refine ⟨(by repeat (first | exact Ent.refl _ | (apply Ent.cons; (· repeat (first | exact Pick.here | (refine Pick.sl ?_; (· repeat (first | exact List.Mem.head _ | assumption | apply List.Mem.tail))) | apply Pick.there))) | (refine Ent.trans (Ent.drop _ _) ?_))), ?_⟩
                refine RH.one (i := 12) (by kernel_rfl) ?_
                refine RHone.eff rfl (Wanted.free rfl) (E.storeAgg rfl rfl rfl rfl sz57 (by repeat (first | exact Pick.here | apply Pick.there)) (by first | (simp [Value.oneCell']; done) | (simp [setAt, Value.oneCell']; done)) (by first | (simp; done) | (simp [setAt]; done))) rfl ?_
                rintro _ _ rfl
                refine ⟨(by repeat (first | exact Ent.refl _ | (apply Ent.cons; (· repeat (first | exact Pick.here | (refine Pick.sl ?_; (· repeat (first | exact List.Mem.head _ | assumption | apply List.Mem.tail))) | apply Pick.there))) | (refine Ent.trans (Ent.drop _ _) ?_))), ?_⟩
                refine RH.one (i := 13) (by kernel_rfl) ?_
                refine RHone.eff rfl (Wanted.free rfl) (E.storeAgg rfl rfl rfl rfl sz34 (by repeat (first | exact Pick.here | apply Pick.there)) (by first | (simp [Value.oneCell']; done) | (simp [setAt, Value.oneCell']; done)) (by first | (simp; done) | (simp [setAt]; done))) rfl ?_
                rintro _ _ rfl
                refine ⟨(by repeat (first | exact Ent.refl _ | (apply Ent.cons; (· repeat (first | exact Pick.here | (refine Pick.sl ?_; (· repeat (first | exact List.Mem.head _ | assumption | apply List.Mem.tail))) | apply Pick.there))) | (refine Ent.trans (Ent.drop _ _) ?_))), ?_⟩
                refine RH.done (by kernel_rfl) ?_
                refine SG.weaken (rest (x20, x21, (a3, m3, c3), (a4, m4, c4)) trivial) ?_ ?_
                · repeat (first | exact EnvLe.nil _ | refine EnvLe.cons rfl ?_)
                · repeat (first | exact Ent.refl _ | (apply Ent.cons; (· repeat (first | exact Pick.here | (refine Pick.sl ?_; (· repeat (first | exact List.Mem.head _ | assumption | apply List.Mem.tail))) | apply Pick.there))) | (refine Ent.trans (Ent.drop _ _) ?_))
            · skip
              refine RHone.eff rfl (Wanted.free rfl) (E.alloc rfl ze57) rfl ?_
              rintro _ _ ⟨x20, rfl, rfl⟩
              refine ⟨(by repeat (first | exact Ent.refl _ | (apply Ent.cons; (· repeat (first | exact Pick.here | (refine Pick.sl ?_; (· repeat (first | exact List.Mem.head _ | assumption | apply List.Mem.tail))) | apply Pick.there))) | (refine Ent.trans (Ent.drop _ _) ?_))), ?_⟩
              refine RH.two (i := 6) (j := 11) (by kernel_rfl) ?_ ?_
              · skip
                refine RHone.eff rfl (Wanted.free rfl) (E.call rfl go26 rfl (expected_ok _ mm (a0 := ax) (by repeat (first | exact List.Mem.head _ | assumption | apply List.Mem.tail)) hmm.1 hmm.2 (by omega))) rfl ?_
                rintro _ _ ⟨l4, e4, w4, a4, m4, c4, a3, m3, c3, hr4, rfl, rfl⟩
                rw [hr3] at hr4
                cases hr4
                refine ⟨(by repeat (first | exact Ent.refl _ | (apply Ent.cons; (· repeat (first | exact Pick.here | (refine Pick.sl ?_; (· repeat (first | exact List.Mem.head _ | assumption | apply List.Mem.tail))) | apply Pick.there))) | (refine Ent.trans (Ent.drop _ _) ?_))), ?_⟩
                refine RH.val 7 rfl (by kernel_rfl) (by kernel_rfl) (by kernel_rfl) (Wanted.free rfl) (V.move rfl rfl) (by repeat (first | exact Ent.refl _ | (apply Ent.cons; (· repeat (first | exact Pick.here | (refine Pick.sl ?_; (· repeat (first | exact List.Mem.head _ | assumption | apply List.Mem.tail))) | apply Pick.there))) | (refine Ent.trans (Ent.drop _ _) ?_))) rfl ?_
                refine RH.val 8 rfl (by kernel_rfl) (by kernel_rfl) (by kernel_rfl) (Wanted.free rfl) (V.extract rfl rfl rfl) (by repeat (first | exact Ent.refl _ | (apply Ent.cons; (· repeat (first | exact Pick.here | (refine Pick.sl ?_; (· repeat (first | exact List.Mem.head _ | assumption | apply List.Mem.tail))) | apply Pick.there))) | (refine Ent.trans (Ent.drop _ _) ?_))) rfl ?_
                refine RH.val 9 rfl (by kernel_rfl) (by kernel_rfl) (by kernel_rfl) (Wanted.free rfl) (V.extract rfl rfl rfl) (by repeat (first | exact Ent.refl _ | (apply Ent.cons; (· repeat (first | exact Pick.here | (refine Pick.sl ?_; (· repeat (first | exact List.Mem.head _ | assumption | apply List.Mem.tail))) | apply Pick.there))) | (refine Ent.trans (Ent.drop _ _) ?_))) rfl ?_
                refine RH.one (i := 11) (by kernel_rfl) ?_
                refine RHone.eff rfl (Wanted.free rfl) (E.alloc rfl ze34) rfl ?_
                rintro _ _ ⟨x21, rfl, rfl⟩
                refine ⟨(by repeat (first | exact Ent.refl _ | (apply Ent.cons; (· repeat (first | exact Pick.here | (refine Pick.sl ?_; (· repeat (first | exact List.Mem.head _ | assumption | apply List.Mem.tail))) | apply Pick.there))) | (refine Ent.trans (Ent.drop _ _) ?_))), ?_⟩
                refine RH.one (i := 12) (by kernel_rfl) ?_
                refine RHone.eff rfl (Wanted.free rfl) (E.storeAgg rfl rfl rfl rfl sz57 (by repeat (first | exact Pick.here | apply Pick.there)) (by first | (simp [Value.oneCell']; done) | (simp [setAt, Value.oneCell']; done)) (by first | (simp; done) | (simp [setAt]; done))) rfl ?_
                rintro _ _ rfl
                refine ⟨(by repeat (first | exact Ent.refl _ | (apply Ent.cons; (· repeat (first | exact Pick.here | (refine Pick.sl ?_; (· repeat (first | exact List.Mem.head _ | assumption | apply List.Mem.tail))) | apply Pick.there))) | (refine Ent.trans (Ent.drop _ _) ?_))), ?_⟩
                refine RH.one (i := 13) (by kernel_rfl) ?_
                refine RHone.eff rfl (Wanted.free rfl) (E.storeAgg rfl rfl rfl rfl sz34 (by repeat (first | exact Pick.here | apply Pick.there)) (by first | (simp [Value.oneCell']; done) | (simp [setAt, Value.oneCell']; done)) (by first | (simp; done) | (simp [setAt]; done))) rfl ?_
                rintro _ _ rfl
                refine ⟨(by repeat (first | exact Ent.refl _ | (apply Ent.cons; (· repeat (first | exact Pick.here | (refine Pick.sl ?_; (· repeat (first | exact List.Mem.head _ | assumption | apply List.Mem.tail))) | apply Pick.there))) | (refine Ent.trans (Ent.drop _ _) ?_))), ?_⟩
                refine RH.done (by kernel_rfl) ?_
                refine SG.weaken (rest (x20, x21, (a3, m3, c3), (a4, m4, c4)) trivial) ?_ ?_
                · repeat (first | exact EnvLe.nil _ | refine EnvLe.cons rfl ?_)
                · repeat (first | exact Ent.refl _ | (apply Ent.cons; (· repeat (first | exact Pick.here | (refine Pick.sl ?_; (· repeat (first | exact List.Mem.head _ | assumption | apply List.Mem.tail))) | apply Pick.there))) | (refine Ent.trans (Ent.drop _ _) ?_))
              · skip
                refine RHone.eff rfl (Wanted.free rfl) (E.alloc rfl ze34) rfl ?_
                rintro _ _ ⟨x21, rfl, rfl⟩
                refine ⟨(by repeat (first | exact Ent.refl _ | (apply Ent.cons; (· repeat (first | exact Pick.here | (refine Pick.sl ?_; (· repeat (first | exact List.Mem.head _ | assumption | apply List.Mem.tail))) | apply Pick.there))) | (refine Ent.trans (Ent.drop _ _) ?_))), ?_⟩
                refine RH.one (i := 6) (by kernel_rfl) ?_
                refine RHone.eff rfl (Wanted.free rfl) (E.call rfl go26 rfl (expected_ok _ mm (a0 := ax) (by repeat (first | exact List.Mem.head _ | assumption | apply List.Mem.tail)) hmm.1 hmm.2 (by omega))) rfl ?_
                rintro _ _ ⟨l4, e4, w4, a4, m4, c4, a3, m3, c3, hr4, rfl, rfl⟩
                rw [hr3] at hr4
                cases hr4
                refine ⟨(by repeat (first | exact Ent.refl _ | (apply Ent.cons; (· repeat (first | exact Pick.here | (refine Pick.sl ?_; (· repeat (first | exact List.Mem.head _ | assumption | apply List.Mem.tail))) | apply Pick.there))) | (refine Ent.trans (Ent.drop _ _) ?_))), ?_⟩
                refine RH.val 7 rfl (by kernel_rfl) (by kernel_rfl) (by kernel_rfl) (Wanted.free rfl) (V.move rfl rfl) (by repeat (first | exact Ent.refl _ | (apply Ent.cons; (· repeat (first | exact Pick.here | (refine Pick.sl ?_; (· repeat (first | exact List.Mem.head _ | assumption | apply List.Mem.tail))) | apply Pick.there))) | (refine Ent.trans (Ent.drop _ _) ?_))) rfl ?_
                refine RH.val 8 rfl (by kernel_rfl) (by kernel_rfl) (by kernel_rfl) (Wanted.free rfl) (V.extract rfl rfl rfl) (by repeat (first | exact Ent.refl _ | (apply Ent.cons; (· repeat (first | exact Pick.here | (refine Pick.sl ?_; (· repeat (first | exact List.Mem.head _ | assumption | apply List.Mem.tail))) | apply Pick.there))) | (refine Ent.trans (Ent.drop _ _) ?_))) rfl ?_
                refine RH.val 9 rfl (by kernel_rfl) (by kernel_rfl) (by kernel_rfl) (Wanted.free rfl) (V.extract rfl rfl rfl) (by repeat (first | exact Ent.refl _ | (apply Ent.cons; (· repeat (first | exact Pick.here | (refine Pick.sl ?_; (· repeat (first | exact List.Mem.head _ | assumption | apply List.Mem.tail))) | apply Pick.there))) | (refine Ent.trans (Ent.drop _ _) ?_))) rfl ?_
                refine RH.one (i := 12) (by kernel_rfl) ?_
                refine RHone.eff rfl (Wanted.free rfl) (E.storeAgg rfl rfl rfl rfl sz57 (by repeat (first | exact Pick.here | apply Pick.there)) (by first | (simp [Value.oneCell']; done) | (simp [setAt, Value.oneCell']; done)) (by first | (simp; done) | (simp [setAt]; done))) rfl ?_
                rintro _ _ rfl
                refine ⟨(by repeat (first | exact Ent.refl _ | (apply Ent.cons; (· repeat (first | exact Pick.here | (refine Pick.sl ?_; (· repeat (first | exact List.Mem.head _ | assumption | apply List.Mem.tail))) | apply Pick.there))) | (refine Ent.trans (Ent.drop _ _) ?_))), ?_⟩
                refine RH.one (i := 13) (by kernel_rfl) ?_
                refine RHone.eff rfl (Wanted.free rfl) (E.storeAgg rfl rfl rfl rfl sz34 (by repeat (first | exact Pick.here | apply Pick.there)) (by first | (simp [Value.oneCell']; done) | (simp [setAt, Value.oneCell']; done)) (by first | (simp; done) | (simp [setAt]; done))) rfl ?_
                rintro _ _ rfl
                refine ⟨(by repeat (first | exact Ent.refl _ | (apply Ent.cons; (· repeat (first | exact Pick.here | (refine Pick.sl ?_; (· repeat (first | exact List.Mem.head _ | assumption | apply List.Mem.tail))) | apply Pick.there))) | (refine Ent.trans (Ent.drop _ _) ?_))), ?_⟩
                refine RH.done (by kernel_rfl) ?_
                refine SG.weaken (rest (x20, x21, (a3, m3, c3), (a4, m4, c4)) trivial) ?_ ?_
                · repeat (first | exact EnvLe.nil _ | refine EnvLe.cons rfl ?_)
                · repeat (first | exact Ent.refl _ | (apply Ent.cons; (· repeat (first | exact Pick.here | (refine Pick.sl ?_; (· repeat (first | exact List.Mem.head _ | assumption | apply List.Mem.tail))) | apply Pick.there))) | (refine Ent.trans (Ent.drop _ _) ?_))
            · skip
              refine RHone.eff rfl (Wanted.free rfl) (E.alloc rfl ze34) rfl ?_
              rintro _ _ ⟨x21, rfl, rfl⟩
              refine ⟨(by repeat (first | exact Ent.refl _ | (apply Ent.cons; (· repeat (first | exact Pick.here | (refine Pick.sl ?_; (· repeat (first | exact List.Mem.head _ | assumption | apply List.Mem.tail))) | apply Pick.there))) | (refine Ent.trans (Ent.drop _ _) ?_))), ?_⟩
              refine RH.two (i := 6) (j := 10) (by kernel_rfl) ?_ ?_
              · skip
                refine RHone.eff rfl (Wanted.free rfl) (E.call rfl go26 rfl (expected_ok _ mm (a0 := ax) (by repeat (first | exact List.Mem.head _ | assumption | apply List.Mem.tail)) hmm.1 hmm.2 (by omega))) rfl ?_
                rintro _ _ ⟨l4, e4, w4, a4, m4, c4, a3, m3, c3, hr4, rfl, rfl⟩
                rw [hr3] at hr4
                cases hr4
                refine ⟨(by repeat (first | exact Ent.refl _ | (apply Ent.cons; (· repeat (first | exact Pick.here | (refine Pick.sl ?_; (· repeat (first | exact List.Mem.head _ | assumption | apply List.Mem.tail))) | apply Pick.there))) | (refine Ent.trans (Ent.drop _ _) ?_))), ?_⟩
                refine RH.val 7 rfl (by kernel_rfl) (by kernel_rfl) (by kernel_rfl) (Wanted.free rfl) (V.move rfl rfl) (by repeat (first | exact Ent.refl _ | (apply Ent.cons; (· repeat (first | exact Pick.here | (refine Pick.sl ?_; (· repeat (first | exact List.Mem.head _ | assumption | apply List.Mem.tail))) | apply Pick.there))) | (refine Ent.trans (Ent.drop _ _) ?_))) rfl ?_
                refine RH.val 8 rfl (by kernel_rfl) (by kernel_rfl) (by kernel_rfl) (Wanted.free rfl) (V.extract rfl rfl rfl) (by repeat (first | exact Ent.refl _ | (apply Ent.cons; (· repeat (first | exact Pick.here | (refine Pick.sl ?_; (· repeat (first | exact List.Mem.head _ | assumption | apply List.Mem.tail))) | apply Pick.there))) | (refine Ent.trans (Ent.drop _ _) ?_))) rfl ?_
                refine RH.val 9 rfl (by kernel_rfl) (by kernel_rfl) (by kernel_rfl) (Wanted.free rfl) (V.extract rfl rfl rfl) (by repeat (first | exact Ent.refl _ | (apply Ent.cons; (· repeat (first | exact Pick.here | (refine Pick.sl ?_; (· repeat (first | exact List.Mem.head _ | assumption | apply List.Mem.tail))) | apply Pick.there))) | (refine Ent.trans (Ent.drop _ _) ?_))) rfl ?_
                refine RH.one (i := 10) (by kernel_rfl) ?_
                refine RHone.eff rfl (Wanted.free rfl) (E.alloc rfl ze57) rfl ?_
                rintro _ _ ⟨x20, rfl, rfl⟩
                refine ⟨(by repeat (first | exact Ent.refl _ | (apply Ent.cons; (· repeat (first | exact Pick.here | (refine Pick.sl ?_; (· repeat (first | exact List.Mem.head _ | assumption | apply List.Mem.tail))) | apply Pick.there))) | (refine Ent.trans (Ent.drop _ _) ?_))), ?_⟩
                refine RH.one (i := 12) (by kernel_rfl) ?_
                refine RHone.eff rfl (Wanted.free rfl) (E.storeAgg rfl rfl rfl rfl sz57 (by repeat (first | exact Pick.here | apply Pick.there)) (by first | (simp [Value.oneCell']; done) | (simp [setAt, Value.oneCell']; done)) (by first | (simp; done) | (simp [setAt]; done))) rfl ?_
                rintro _ _ rfl
                refine ⟨(by repeat (first | exact Ent.refl _ | (apply Ent.cons; (· repeat (first | exact Pick.here | (refine Pick.sl ?_; (· repeat (first | exact List.Mem.head _ | assumption | apply List.Mem.tail))) | apply Pick.there))) | (refine Ent.trans (Ent.drop _ _) ?_))), ?_⟩
                refine RH.one (i := 13) (by kernel_rfl) ?_
                refine RHone.eff rfl (Wanted.free rfl) (E.storeAgg rfl rfl rfl rfl sz34 (by repeat (first | exact Pick.here | apply Pick.there)) (by first | (simp [Value.oneCell']; done) | (simp [setAt, Value.oneCell']; done)) (by first | (simp; done) | (simp [setAt]; done))) rfl ?_
                rintro _ _ rfl
                refine ⟨(by repeat (first | exact Ent.refl _ | (apply Ent.cons; (· repeat (first | exact Pick.here | (refine Pick.sl ?_; (· repeat (first | exact List.Mem.head _ | assumption | apply List.Mem.tail))) | apply Pick.there))) | (refine Ent.trans (Ent.drop _ _) ?_))), ?_⟩
                refine RH.done (by kernel_rfl) ?_
                refine SG.weaken (rest (x20, x21, (a3, m3, c3), (a4, m4, c4)) trivial) ?_ ?_
                · repeat (first | exact EnvLe.nil _ | refine EnvLe.cons rfl ?_)
                · repeat (first | exact Ent.refl _ | (apply Ent.cons; (· repeat (first | exact Pick.here | (refine Pick.sl ?_; (· repeat (first | exact List.Mem.head _ | assumption | apply List.Mem.tail))) | apply Pick.there))) | (refine Ent.trans (Ent.drop _ _) ?_))
              · skip
                refine RHone.eff rfl (Wanted.free rfl) (E.alloc rfl ze57) rfl ?_
                rintro _ _ ⟨x20, rfl, rfl⟩
                refine ⟨(by repeat (first | exact Ent.refl _ | (apply Ent.cons; (· repeat (first | exact Pick.here | (refine Pick.sl ?_; (· repeat (first | exact List.Mem.head _ | assumption | apply List.Mem.tail))) | apply Pick.there))) | (refine Ent.trans (Ent.drop _ _) ?_))), ?_⟩
                refine RH.one (i := 6) (by kernel_rfl) ?_
                refine RHone.eff rfl (Wanted.free rfl) (E.call rfl go26 rfl (expected_ok _ mm (a0 := ax) (by repeat (first | exact List.Mem.head _ | assumption | apply List.Mem.tail)) hmm.1 hmm.2 (by omega))) rfl ?_
                rintro _ _ ⟨l4, e4, w4, a4, m4, c4, a3, m3, c3, hr4, rfl, rfl⟩
                rw [hr3] at hr4
                cases hr4
                refine ⟨(by repeat (first | exact Ent.refl _ | (apply Ent.cons; (· repeat (first | exact Pick.here | (refine Pick.sl ?_; (· repeat (first | exact List.Mem.head _ | assumption | apply List.Mem.tail))) | apply Pick.there))) | (refine Ent.trans (Ent.drop _ _) ?_))), ?_⟩
                refine RH.val 7 rfl (by kernel_rfl) (by kernel_rfl) (by kernel_rfl) (Wanted.free rfl) (V.move rfl rfl) (by repeat (first | exact Ent.refl _ | (apply Ent.cons; (· repeat (first | exact Pick.here | (refine Pick.sl ?_; (· repeat (first | exact List.Mem.head _ | assumption | apply List.Mem.tail))) | apply Pick.there))) | (refine Ent.trans (Ent.drop _ _) ?_))) rfl ?_
                refine RH.val 8 rfl (by kernel_rfl) (by kernel_rfl) (by kernel_rfl) (Wanted.free rfl) (V.extract rfl rfl rfl) (by repeat (first | exact Ent.refl _ | (apply Ent.cons; (· repeat (first | exact Pick.here | (refine Pick.sl ?_; (· repeat (first | exact List.Mem.head _ | assumption | apply List.Mem.tail))) | apply Pick.there))) | (refine Ent.trans (Ent.drop _ _) ?_))) rfl ?_
                refine RH.val 9 rfl (by kernel_rfl) (by kernel_rfl) (by kernel_rfl) (Wanted.free rfl) (V.extract rfl rfl rfl) (by repeat (first | exact Ent.refl _ | (apply Ent.cons; (· repeat (first | exact Pick.here | (refine Pick.sl ?_; (· repeat (first | exact List.Mem.head _ | assumption | apply List.Mem.tail))) | apply Pick.there))) | (refine Ent.trans (Ent.drop _ _) ?_))) rfl ?_
                refine RH.one (i := 12) (by kernel_rfl) ?_
                refine RHone.eff rfl (Wanted.free rfl) (E.storeAgg rfl rfl rfl rfl sz57 (by repeat (first | exact Pick.here | apply Pick.there)) (by first | (simp [Value.oneCell']; done) | (simp [setAt, Value.oneCell']; done)) (by first | (simp; done) | (simp [setAt]; done))) rfl ?_
                rintro _ _ rfl
                refine ⟨(by repeat (first | exact Ent.refl _ | (apply Ent.cons; (· repeat (first | exact Pick.here | (refine Pick.sl ?_; (· repeat (first | exact List.Mem.head _ | assumption | apply List.Mem.tail))) | apply Pick.there))) | (refine Ent.trans (Ent.drop _ _) ?_))), ?_⟩
                refine RH.one (i := 13) (by kernel_rfl) ?_
                refine RHone.eff rfl (Wanted.free rfl) (E.storeAgg rfl rfl rfl rfl sz34 (by repeat (first | exact Pick.here | apply Pick.there)) (by first | (simp [Value.oneCell']; done) | (simp [setAt, Value.oneCell']; done)) (by first | (simp; done) | (simp [setAt]; done))) rfl ?_
                rintro _ _ rfl
                refine ⟨(by repeat (first | exact Ent.refl _ | (apply Ent.cons; (· repeat (first | exact Pick.here | (refine Pick.sl ?_; (· repeat (first | exact List.Mem.head _ | assumption | apply List.Mem.tail))) | apply Pick.there))) | (refine Ent.trans (Ent.drop _ _) ?_))), ?_⟩
                refine RH.done (by kernel_rfl) ?_
                refine SG.weaken (rest (x20, x21, (a3, m3, c3), (a4, m4, c4)) trivial) ?_ ?_
                · repeat (first | exact EnvLe.nil _ | refine EnvLe.cons rfl ?_)
                · repeat (first | exact Ent.refl _ | (apply Ent.cons; (· repeat (first | exact Pick.here | (refine Pick.sl ?_; (· repeat (first | exact List.Mem.head _ | assumption | apply List.Mem.tail))) | apply Pick.there))) | (refine Ent.trans (Ent.drop _ _) ?_))
        · skip
          refine SG.region ?_
          refine RL.val (Wanted.free rfl) (V.move rfl rfl) rfl ?_
          refine RL.val (Wanted.free rfl) (V.move rfl rfl) rfl ?_
          refine RL.val (Wanted.free rfl) (V.len rfl rfl el32.under rfl) rfl ?_
          refine RL.cmp (Wanted.free rfl) (V.bin rfl rfl rfl B.lss) rfl (fun h116 => ?_) (fun h116 => ?_)
          · skip
            refine RL.nil ?_
            refine SG.cond_true rfl ?_
            refine SG.region ?_
            refine RL.val (Wanted.free rfl) (V.move rfl rfl) rfl ?_
            refine RL.val (Wanted.free rfl) (V.move rfl rfl) rfl ?_
            refine RL.val (Wanted.free rfl) (V.indexSl rfl el32.slice rfl rfl (by repeat (first | exact List.Mem.head _ | assumption | apply List.Mem.tail)) (by first | rfl | omega) (by omega)) rfl ?_
            refine RL.val (Wanted.free rfl) (V.loadSc rfl on3 rfl (by repeat (first | exact List.Mem.head _ | assumption | apply List.Mem.tail)) (List.getElem?_eq_getElem (by omega))) rfl ?_
            refine RL.val (Wanted.free rfl) (V.assign rfl rfl) rfl ?_
            refine RL.nil ?_
            refine SG.weaken (rest ms[i] (hint ms[i] (List.getElem_mem _))) ?_ ?_
            · repeat (first | exact EnvLe.nil _ | refine EnvLe.cons rfl ?_)
            · repeat (first | exact Ent.refl _ | (apply Ent.cons; (· repeat (first | exact Pick.here | (refine Pick.sl ?_; (· repeat (first | exact List.Mem.head _ | assumption | apply List.Mem.tail))) | apply Pick.there))) | (refine Ent.trans (Ent.drop _ _) ?_))
          · skip
            refine RL.nil ?_
            refine SG.cond_false rfl ?_
            refine SG.skip ?_
            refine SG.weaken (rest 20 (by decide)) ?_ ?_
            · repeat (first | exact EnvLe.nil _ | refine EnvLe.cons rfl ?_)
            · repeat (first | exact Ent.refl _ | (apply Ent.cons; (· repeat (first | exact Pick.here | (refine Pick.sl ?_; (· repeat (first | exact List.Mem.head _ | assumption | apply List.Mem.tail))) | apply Pick.there))) | (refine Ent.trans (Ent.drop _ _) ?_))
      · skip
        refine RL.nil ?_
        refine SG.cond_false rfl ?_
        refine SG.exit rfl ?_
        refine SG.inBlock ?_
        refine SG.region ?_
        refine RL.val (Wanted.free rfl) (V.move rfl rfl) rfl ?_
        refine RL.val (Wanted.free rfl) (V.bin rfl rfl rfl (B.addI (by omega) (by omega))) rfl ?_
        refine RL.val (Wanted.free rfl) (V.assign rfl rfl) rfl ?_
        refine RL.nil ?_
        refine SG.weaken (ih0 _ _ _ ?_ ⟨q + 1, by omega, rfl, rfl, rfl⟩) ?_ ?_
        · omega
        · repeat (first | exact EnvLe.nil _ | refine EnvLe.cons rfl ?_)
        · repeat (first | exact Ent.refl _ | (apply Ent.cons; (· repeat (first | exact Pick.here | (refine Pick.sl ?_; (· repeat (first | exact List.Mem.head _ | assumption | apply List.Mem.tail))) | apply Pick.there))) | (refine Ent.trans (Ent.drop _ _) ?_))
    · skip
      refine RL.nil ?_
      refine SG.cond_false rfl ?_
      refine SG.exit rfl ?_
      refine SG.seq ?_
      refine SG.region ?_
      refine RL.eff (Wanted.free rfl) (E.call rfl go17 rfl (lives_ok)) rfl ?_
      rintro _ _ ⟨rfl, rfl⟩
      refine RL.val (Wanted.free rfl) (V.assign rfl rfl) rfl ?_
      refine RL.nil ?_
      refine SG.retE (Ret.r1 Try.func6 rfl (.tmp rfl)) ?_ ⟨rfl, rfl⟩
      repeat (first | exact Ent.refl _ | (apply Ent.cons; (· repeat (first | exact Pick.here | (refine Pick.sl ?_; (· repeat (first | exact List.Mem.head _ | assumption | apply List.Mem.tail))) | apply Pick.there))) | (refine Ent.trans (Ent.drop _ _) ?_))
  · skip
    refine SG.region ?_
    refine RL.val (Wanted.free rfl) (V.move rfl rfl) rfl ?_
    refine RL.val (Wanted.free rfl) (V.len rfl rfl el23.under rfl) rfl ?_
    refine RL.cmp (Wanted.free rfl) (V.bin rfl rfl rfl B.gtr) rfl (fun h129 => ?_) (fun h129 => ?_)
    · skip
      refine RL.nil ?_
      refine SG.cond_true rfl ?_
      have hpos : 0 < (encVs (fewV l)).length := by omega
      obtain ⟨hb1, hb2⟩ := aroundV_bd (n := at_) (most := ((encVs (fewV l)).length : Int)) (by omega)
      obtain ⟨kk, hk0⟩ : ∃ kk : Nat, aroundV at_ ((encVs (fewV l)).length : Int) = (kk : Int) := ⟨_, (Int.toNat_of_nonneg hb1).symm⟩
      have hkk : kk < (encVs (fewV l)).length := by omega
      refine SG.region ?_
      refine RL.val (Wanted.free rfl) (V.move rfl rfl) rfl ?_
      refine RL.val (Wanted.free rfl) (V.move rfl rfl) rfl ?_
      refine RL.val (Wanted.free rfl) (V.move rfl rfl) rfl ?_
      refine RL.val (Wanted.free rfl) (V.len rfl rfl el23.under rfl) rfl ?_
      refine RL.eff (Wanted.free rfl) (E.call rfl go23 rfl (around_ok _ _ ht1 ht2 (by omega))) rfl ?_
      rintro _ _ ⟨rfl, rfl⟩
      rw [hk0]
      refine RL.val (Wanted.free rfl) (V.move rfl rfl) rfl ?_
      refine RL.val (Wanted.free rfl) (V.indexBuf (j := kk) rfl el23.slice rfl rfl (by repeat (first | exact Pick.here | apply Pick.there)) (by first | rfl | omega) (by omega)) rfl ?_
      refine RL.eff (Wanted.free rfl) (E.storeBuf (T := R8) (j := kk) (y := y) [v8 y] rfl sz5 rfl rfl rfl (by repeat (first | exact Pick.here | apply Pick.there)) (by omega) (fun z h H => ⟨rfl, trivial⟩)) rfl ?_
      rintro _ _ rfl
      refine RL.nil ?_
      refine SG.weaken (rest ((encVs (fewV l)).set kk y) (by rw [List.length_set]; omega)) ?_ ?_
      · repeat (first | exact EnvLe.nil _ | refine EnvLe.cons rfl ?_)
      · repeat (first | exact Ent.refl _ | (apply Ent.cons; (· repeat (first | exact Pick.here | (refine Pick.sl ?_; (· repeat (first | exact List.Mem.head _ | assumption | apply List.Mem.tail))) | apply Pick.there))) | (refine Ent.trans (Ent.drop _ _) ?_))
    · skip
      refine RL.nil ?_
      refine SG.cond_false rfl ?_
      refine SG.skip ?_
      refine SG.weaken (rest (encVs (fewV l)) (by omega)) ?_ ?_
      · repeat (first | exact EnvLe.nil _ | refine EnvLe.cons rfl ?_)
      · repeat (first | exact Ent.refl _ | (apply Ent.cons; (· repeat (first | exact Pick.here | (refine Pick.sl ?_; (· repeat (first | exact List.Mem.head _ | assumption | apply List.Mem.tail))) | apply Pick.there))) | (refine Ent.trans (Ent.drop _ _) ?_))

end Go.Proofs.Ytdccpcnahbhfcaa
