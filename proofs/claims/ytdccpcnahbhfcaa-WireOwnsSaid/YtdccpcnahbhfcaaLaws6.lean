/- The walk of the statement that the writer and the reader own what they hold. -/
import Derived.Test.YtdccpcnahbhfcaaLaws3
import Derived.Test.YtdccpcnahbhfcaaMore2
namespace Go.Proofs.Ytdccpcnahbhfcaa
open Go.Wk Go.Wire

theorem Buf8_free {z z' h : Frag} {e : TypeId} {a : Option Addr} {m c : Nat} {l : List UInt8} (H : Holds z [Buf R8 e a m c l] h) : Holds z' [Buf R8 e a m c l] h := by
  obtain ⟨h1, h2, z1, g1, g2, g3, g4, ⟨k1, k2, k3, k4⟩, g6⟩ := H
  refine ⟨h1, h2, z', Frag.le.refl _, g2, g3, g4, ⟨k1, k2, k3, ?_⟩, trivial⟩
  rcases k4 with k4 | ⟨b, cs, rest, fz, rfl, hb, hf, hr, hl⟩
  · exact .inl k4
  · exact .inr ⟨b, cs, rest, fz, rfl, hb, hf, rows_sc.2 (rows_sc.1 hr), hl⟩
theorem few_rd {κ : World} {L : List Assn} {a : Option Addr} {m c : Nat} {l : List UInt8} {k : Int} (hs : Seen (SlP R8 a m c l) L) (hk : 0 ≤ k) (hk2 : k ≤ 1000000) : Ctr Try.prog 20 #[.slice a m c, vI k] κ L (fun v M => ∃ a' k' c', v = .slice a' k' c' ∧ M = Buf R8 5 a' k' c' (l.take k.toNat) :: L) :=
  (Ctr.read (ι := Option Addr × Nat × Nat) (Rs := [SlP R8 a m c l]) (r := fun x => .slice x.1 x.2.1 x.2.2) (N := fun x => [Buf R8 5 x.1 x.2.1 x.2.2 (l.take k.toNat)]) (by simp [hs])
    (fun _ hL => (few_ok (hL _ (by simp)) hk hk2).mono (Ent.refl _) fun _ _ ⟨a', k', c', h1, h2⟩ => ⟨(a', k', c'), h1, h2⟩) (fun _ _ _ _ H => Buf8_free H)).mono (Ent.refl _) fun _ _ ⟨x, h1, h2⟩ => ⟨x.1, x.2.1, x.2.2, h1, h2⟩
set_option maxRecDepth 100000 in
theorem owns_law {κ : World} {L : List Assn} {a : Option Addr} {n0 c : Nat} {l : List Val} (hm : Sl RVal a n0 c l ∈ L) :
    Ctr Try.prog 10 #[.slice a n0 c] κ L (fun v M => v = vB true ∧ M = L) := by
  refine Ctr.enter (vs := [.slice a n0 c]) (m := 77) Try.func10 rfl rfl rfl ?_
  refine SG.fact (fun w hs => Sl.vok hs hm) fun hvok => ?_
  have hsm := fewV_small hvok
  have h12 : (fewV l).length ≤ 12 := fewV_length
  refine SG.seq ?_
  refine SG.region ?_
  refine RL.val (Wanted.free rfl) (V.assign rfl rfl) rfl ?_
  refine RL.nil ?_
  refine SG.seq ?_
  refine SG.region ?_
  refine RL.val (Wanted.free rfl) (V.move rfl rfl) rfl ?_
  refine RL.eff (Wanted.free rfl) (E.call rfl go11 rfl (few2_ok (by repeat (first | exact List.Mem.head _ | assumption | apply List.Mem.tail)))) rfl ?_
  rintro _ _ ⟨a3, k3, c3, rfl, rfl⟩
  refine RL.publish (a := a3) (by repeat (first | exact Pick.here | apply Pick.there)) ?_
  refine RL.val (Wanted.free rfl) (V.assign rfl rfl) rfl ?_
  refine RL.nil ?_
  refine SG.seq ?_
  refine SG.region ?_
  refine RL.eff (Wanted.free rfl) (E.alloc rfl ze27) rfl ?_
  rintro _ _ ⟨b4, rfl, rfl⟩
  refine RL.ent (Ent.trans (Ent.trans (Buf.nil (T := R8) (e := 5)) (Ent.swap _ _ _)) Wr.close) ?_
  refine RL.nil ?_
  refine SG.seq ?_
  refine SG.seq ?_
  refine SG.region ?_
  refine RL.val (Wanted.free rfl) (V.assign rfl rfl) rfl ?_
  refine RL.nil ?_
  refine SG.block ?_
  generalize fewV l = fv at *
  refine SG.sl (T := RVal) (l := fv) (a := a3) (by repeat (first | exact List.Mem.head _ | assumption | apply List.Mem.tail)) fun hfl _ _ => ?_
  subst hfl
  have hlen := encVs_length hsm
  refine SG.weaken (SG.loop2 (fun m al M => ∃ i : Nat, i ≤ fv.length ∧ m = fv.length - i ∧ al = [(3, .slice a3 fv.length c3), (4, ptr b4 0), (5, vI i)] ∧ M = Wr b4 (encVs (fv.take i)) :: Sl RVal a3 fv.length c3 fv :: L) (m0 := _) ⟨0, by omega, rfl, rfl, rfl⟩ ?_) ?_ ?_
  rotate_left
  · repeat (first | exact EnvLe.nil _ | refine EnvLe.cons rfl ?_)
  · repeat (first | exact Ent.refl _ | (apply Ent.cons; (· repeat (first | exact Pick.here | (refine Pick.sl ?_; (· repeat (first | exact List.Mem.head _ | assumption | apply List.Mem.tail))) | apply Pick.there))) | (refine Ent.trans (Ent.drop _ _) ?_))
  rintro _ _ _ ⟨i, hi, rfl, rfl, rfl⟩ ih0
  refine SG.seq ?_
  refine SG.seq ?_
  refine SG.region ?_
  refine RL.val (Wanted.free rfl) (V.move rfl rfl) rfl ?_
  refine RL.val (Wanted.free rfl) (V.move rfl rfl) rfl ?_
  refine RL.val (Wanted.free rfl) (V.len rfl rfl el22.under rfl) rfl ?_
  refine RL.cmp (Wanted.free rfl) (V.bin rfl rfl rfl B.lss) rfl (fun h10 => ?_) (fun h10 => ?_)
  · skip
    refine RL.nil ?_
    refine SG.cond_true rfl ?_
    refine SG.skip ?_
    refine SG.seq ?_
    refine SG.block ?_
    refine SG.elem (T := RVal) (j := i) (l := fv) (by repeat (first | exact List.Mem.head _ | assumption | apply List.Mem.tail)) (List.getElem?_eq_getElem (by omega)) fun us hus => ?_
    refine SG.openVal (by repeat (first | exact Pick.here | apply Pick.there)) fun a1 m1 c1 hus2 hok => ?_
    subst hus2
    have hs1 := hsm fv[i] (List.getElem_mem _)
    have hlen2 := encVs_length (l := fv.take i) (fun v h => hsm v (List.mem_of_mem_take h))
    rw [List.length_take] at hlen2
    refine SG.region ?_
    refine RL.val (Wanted.free rfl) (V.move rfl rfl) rfl ?_
    refine RL.val (Wanted.free rfl) (V.move rfl rfl) rfl ?_
    refine RL.val (Wanted.free rfl) (V.indexSl rfl el22.slice rfl rfl (by repeat (first | exact List.Mem.head _ | assumption | apply List.Mem.tail)) (by first | rfl | omega) (by omega)) rfl ?_
    refine RL.val (Wanted.free rfl) (V.loadAt rfl ag34 rfl (by repeat (first | exact List.Mem.head _ | assumption | apply List.Mem.tail)) rfl) rfl ?_
    refine RL.eff (Wanted.free rfl) (E.call rfl go12 rfl (write_ok _ (by repeat (first | exact Pick.here | apply Pick.there)) (by repeat (first | exact List.Mem.head _ | assumption | apply List.Mem.tail)) hs1.mid (by omega))) rfl ?_
    rintro _ _ ⟨rfl, rfl⟩
    refine RL.nil ?_
    refine SG.inBlock ?_
    refine SG.region ?_
    refine RL.val (Wanted.free rfl) (V.move rfl rfl) rfl ?_
    refine RL.val (Wanted.free rfl) (V.bin rfl rfl rfl (B.addI (by omega) (by omega))) rfl ?_
    refine RL.val (Wanted.free rfl) (V.assign rfl rfl) rfl ?_
    refine RL.nil ?_
    refine SG.weaken (ih0 _ _ _ ?_ ⟨i + 1, by omega, rfl, rfl, rfl⟩) ?_ ?_
    · omega
    · repeat (first | exact EnvLe.nil _ | refine EnvLe.cons rfl ?_)
    · rw [show fv.take (i + 1) = fv.take i ++ [fv[i]] from by rw [List.take_add_one, List.getElem?_eq_getElem (by omega)]; rfl, encVs_snoc]
      repeat (first | exact Ent.refl _ | (apply Ent.cons; (· repeat (first | exact Pick.here | (refine Pick.sl ?_; (· repeat (first | exact List.Mem.head _ | assumption | apply List.Mem.tail))) | apply Pick.there))) | (refine Ent.trans (Ent.drop _ _) ?_))
  · skip
    refine RL.nil ?_
    refine SG.cond_false rfl ?_
    refine SG.exit rfl ?_
    refine SG.seq ?_
    obtain rfl : i = fv.length := by omega
    rw [List.take_length]
    refine SG.region ?_
    refine RL.val (Wanted.free rfl) (V.fieldAddr rfl rfl fo27_0) rfl ?_
    refine RL.eff (Wanted.free rfl) (E.call rfl go15 rfl (done_ok (by repeat (first | exact Pick.here | apply Pick.there)) (by omega))) rfl ?_
    rintro _ _ ⟨a6, k6, c6, rfl, rfl⟩
    refine RL.buf (a := a6) (by repeat (first | exact Pick.here | apply Pick.there)) fun h6 _ _ => ?_
    refine RL.val (Wanted.free rfl) (V.assign rfl rfl) rfl ?_
    refine RL.nil ?_
    refine SG.seq ?_
    refine SG.region ?_
    refine RL.val (Wanted.free rfl) (V.move rfl rfl) rfl ?_
    refine RL.val (Wanted.free rfl) (V.move rfl rfl) rfl ?_
    refine RL.val (Wanted.free rfl) (V.len rfl rfl el23.under rfl) rfl ?_
    refine RL.eff (Wanted.free rfl) (E.call rfl go20 rfl (few_rd (by first | (apply Seen.sl; (· repeat (first | exact List.Mem.head _ | assumption | apply List.Mem.tail))) | (apply Seen.buf; (· repeat (first | exact Pick.here | apply Pick.there)))) (by omega) (by omega))) rfl ?_
    rintro _ _ ⟨a7, k7, c7, rfl, rfl⟩
    rw [show ((k6 : Int)).toNat = k6 from rfl, List.take_of_length_le (l := encVs fv) (by omega)]
    refine RL.val (Wanted.free rfl) (V.assign rfl rfl) rfl ?_
    refine RL.nil ?_
    refine SG.seq ?_
    refine SG.region ?_
    refine RL.val (Wanted.free rfl) (V.move rfl rfl) rfl ?_
    refine RL.eff (Wanted.free rfl) (E.call rfl go19 rfl (newReader_buf (a := a7) (by repeat (first | exact Pick.here | apply Pick.there)) (by omega))) rfl ?_
    rintro _ _ ⟨br, rfl, rfl⟩
    refine RL.val (Wanted.free rfl) (V.assign rfl rfl) rfl ?_
    refine RL.nil ?_
    refine SG.seq ?_
    refine SG.seq ?_
    refine SG.region ?_
    refine RL.val (Wanted.free rfl) (V.move rfl rfl) rfl ?_
    refine RL.cmpF (Wanted.free rfl) (V.eqlPtrNil rfl up42 rfl rfl) rfl (by simp) ?_
    refine RL.nil ?_
    refine SG.cond_false rfl ?_
    refine SG.skip ?_
    refine SG.seq ?_
    refine SG.seq ?_
    refine SG.region ?_
    refine RL.val (Wanted.free rfl) (V.assign rfl rfl) rfl ?_
    refine RL.nil ?_
    refine SG.block ?_
    generalize hall : encVs fv = all at *
    refine SG.buf (a := a6) (by repeat (first | exact Pick.here | apply Pick.there)) fun h6 _ _ => ?_
    refine SG.buf (a := a7) (by repeat (first | exact Pick.here | apply Pick.there)) fun h7 _ _ => ?_
    have hlen67 : k7 = k6 := by omega
    refine SG.weaken (SG.loop2 (fun m al M => ∃ (j : Nat) (l6 l7 : List UInt8), l6.length = k6 ∧ l7.length = k7 ∧ j ≤ k6 ∧ m = k6 - j ∧ al = [(3, .slice a3 fv.length c3), (4, ptr b4 0), (6, .slice a6 k6 c6), (7, .slice a7 k7 c7), (8, ptr br 0), (9, vI j)] ∧ M = Buf R8 5 a6 k6 c6 l6 :: Buf R8 5 a7 k7 c7 l7 :: Rdr br all 0 :: Wr b4 all :: Sl RVal a3 fv.length c3 fv :: L) (m0 := _) ⟨0, all, all, h6, h7, by omega, rfl, rfl, rfl⟩ ?_) ?_ ?_
    rotate_left
    · repeat (first | exact EnvLe.nil _ | refine EnvLe.cons rfl ?_)
    · repeat (first | exact Ent.refl _ | (apply Ent.cons; (· repeat (first | exact Pick.here | (refine Pick.sl ?_; (· repeat (first | exact List.Mem.head _ | assumption | apply List.Mem.tail))) | apply Pick.there))) | (refine Ent.trans (Ent.drop _ _) ?_))
    rintro _ _ _ ⟨j, l6, l7, h6l, h7l, hj, rfl, rfl, rfl⟩ ih1
    refine SG.seq ?_
    refine SG.seq ?_
    refine SG.region ?_
    refine RL.val (Wanted.free rfl) (V.move rfl rfl) rfl ?_
    refine RL.val (Wanted.free rfl) (V.move rfl rfl) rfl ?_
    refine RL.val (Wanted.free rfl) (V.len rfl rfl el23.under rfl) rfl ?_
    refine RL.cmp (Wanted.free rfl) (V.bin rfl rfl rfl B.lss) rfl (fun h35 => ?_) (fun h35 => ?_)
    · skip
      refine RL.nil ?_
      refine SG.cond_true rfl ?_
      refine SG.skip ?_
      refine SG.seq ?_
      refine SG.block ?_
      refine SG.seq ?_
      refine SG.region ?_
      refine RL.val (Wanted.free rfl) (V.move rfl rfl) rfl ?_
      refine RL.val (Wanted.free rfl) (V.move rfl rfl) rfl ?_
      refine RL.val (Wanted.free rfl) (V.indexBuf (j := j) rfl el23.slice rfl rfl (by repeat (first | exact Pick.here | apply Pick.there)) (by first | rfl | omega) (by omega)) rfl ?_
      refine RL.eff (Wanted.free rfl) (E.storeBuf (T := R8) (j := j) (y := 77) [v8 77] rfl sz5 rfl rfl rfl (by repeat (first | exact Pick.here | apply Pick.there)) (by omega) (fun z h H => ⟨rfl, trivial⟩)) rfl ?_
      rintro _ _ rfl
      refine RL.nil ?_
      refine SG.region ?_
      refine RL.val (Wanted.free rfl) (V.move rfl rfl) rfl ?_
      refine RL.val (Wanted.free rfl) (V.move rfl rfl) rfl ?_
      refine RL.val (Wanted.free rfl) (V.indexBuf (j := j) rfl el23.slice rfl rfl (by repeat (first | exact Pick.here | apply Pick.there)) (by first | rfl | omega) (by omega)) rfl ?_
      refine RL.eff (Wanted.free rfl) (E.storeBuf (T := R8) (j := j) (y := 78) [v8 78] rfl sz5 rfl rfl rfl (by repeat (first | exact Pick.here | apply Pick.there)) (by omega) (fun z h H => ⟨rfl, trivial⟩)) rfl ?_
      rintro _ _ rfl
      refine RL.nil ?_
      refine SG.inBlock ?_
      refine SG.region ?_
      refine RL.val (Wanted.free rfl) (V.move rfl rfl) rfl ?_
      refine RL.val (Wanted.free rfl) (V.bin rfl rfl rfl (B.addI (by omega) (by omega))) rfl ?_
      refine RL.val (Wanted.free rfl) (V.assign rfl rfl) rfl ?_
      refine RL.nil ?_
      refine SG.weaken (ih1 _ _ _ ?_ ⟨j + 1, l6.set j 77, l7.set j 78, by rw [List.length_set]; exact h6l, by rw [List.length_set]; exact h7l, by omega, rfl, rfl, rfl⟩) ?_ ?_
      · omega
      · repeat (first | exact EnvLe.nil _ | refine EnvLe.cons rfl ?_)
      · repeat (first | exact Ent.refl _ | (apply Ent.cons; (· repeat (first | exact Pick.here | (refine Pick.sl ?_; (· repeat (first | exact List.Mem.head _ | assumption | apply List.Mem.tail))) | apply Pick.there))) | (refine Ent.trans (Ent.drop _ _) ?_))
    · skip
      refine RL.nil ?_
      refine SG.cond_false rfl ?_
      refine SG.exit rfl ?_
      refine SG.seq ?_
      refine SG.seq ?_
      refine SG.region ?_
      refine RL.val (Wanted.free rfl) (V.assign rfl rfl) rfl ?_
      refine RL.nil ?_
      refine SG.block ?_
      subst hall
      refine SG.weaken (SG.loop2 (fun m al M => ∃ i : Nat, i ≤ fv.length ∧ m = fv.length - i ∧ al = [(3, .slice a3 fv.length c3), (4, ptr b4 0), (8, ptr br 0), (10, vI i)] ∧ M = Rdr br (encVs (fv.drop i)) 0 :: Wr b4 (encVs fv) :: Sl RVal a3 fv.length c3 fv :: L) (m0 := _) ⟨0, by omega, rfl, rfl, rfl⟩ ?_) ?_ ?_
      rotate_left
      · repeat (first | exact EnvLe.nil _ | refine EnvLe.cons rfl ?_)
      · repeat (first | exact Ent.refl _ | (apply Ent.cons; (· repeat (first | exact Pick.here | (refine Pick.sl ?_; (· repeat (first | exact List.Mem.head _ | assumption | apply List.Mem.tail))) | apply Pick.there))) | (refine Ent.trans (Ent.drop _ _) ?_))
      rintro _ _ _ ⟨i, hi, rfl, rfl, rfl⟩ ih2
      refine SG.seq ?_
      refine SG.seq ?_
      refine SG.region ?_
      refine RL.val (Wanted.free rfl) (V.move rfl rfl) rfl ?_
      refine RL.val (Wanted.free rfl) (V.move rfl rfl) rfl ?_
      refine RL.val (Wanted.free rfl) (V.len rfl rfl el22.under rfl) rfl ?_
      refine RL.cmp (Wanted.free rfl) (V.bin rfl rfl rfl B.lss) rfl (fun h51 => ?_) (fun h51 => ?_)
      · skip
        refine RL.nil ?_
        refine SG.cond_true rfl ?_
        refine SG.skip ?_
        refine SG.seq ?_
        refine SG.block ?_
        refine SG.seq ?_
        refine SG.elem (T := RVal) (j := i) (l := fv) (by repeat (first | exact List.Mem.head _ | assumption | apply List.Mem.tail)) (List.getElem?_eq_getElem (by omega)) fun us hus => ?_
        refine SG.openVal (by repeat (first | exact Pick.here | apply Pick.there)) fun a1 m1 c1 hus2 hok => ?_
        subst hus2
        have hs1 := hsm fv[i] (List.getElem_mem _)
        have hlen2 := encVs_length (l := fv.drop i) (fun v h => hsm v (List.mem_of_mem_drop h))
        rw [List.length_drop] at hlen2
        refine SG.drawN 12 (At a3 (i * 6) (fv[i].cells a1 m1 c1) :: Sl RI a1 m1 c1 fv[i].l :: Sl RVal a3 fv.length c3 fv :: L) wide rfl rfl ?_
        refine RH.val 0 rfl (by kernel_rfl) (by kernel_rfl) (by kernel_rfl) (Wanted.free rfl) (V.move rfl rfl) (by repeat (first | exact Ent.refl _ | (apply Ent.cons; (· repeat (first | exact Pick.here | (refine Pick.sl ?_; (· repeat (first | exact List.Mem.head _ | assumption | apply List.Mem.tail))) | apply Pick.there))) | (refine Ent.trans (Ent.drop _ _) ?_))) rfl ?_
        refine RH.val 1 rfl (by kernel_rfl) (by kernel_rfl) (by kernel_rfl) (Wanted.free rfl) (V.move rfl rfl) (by repeat (first | exact Ent.refl _ | (apply Ent.cons; (· repeat (first | exact Pick.here | (refine Pick.sl ?_; (· repeat (first | exact List.Mem.head _ | assumption | apply List.Mem.tail))) | apply Pick.there))) | (refine Ent.trans (Ent.drop _ _) ?_))) rfl ?_
        refine RH.val 2 rfl (by kernel_rfl) (by kernel_rfl) (by kernel_rfl) (Wanted.free rfl) (V.indexSl rfl el22.slice rfl rfl (by repeat (first | exact List.Mem.head _ | assumption | apply List.Mem.tail)) (by first | rfl | omega) (by omega)) (by repeat (first | exact Ent.refl _ | (apply Ent.cons; (· repeat (first | exact Pick.here | (refine Pick.sl ?_; (· repeat (first | exact List.Mem.head _ | assumption | apply List.Mem.tail))) | apply Pick.there))) | (refine Ent.trans (Ent.drop _ _) ?_))) rfl ?_
        refine RH.val 3 rfl (by kernel_rfl) (by kernel_rfl) (by kernel_rfl) (Wanted.free rfl) (V.loadAt rfl ag34 rfl (by repeat (first | exact List.Mem.head _ | assumption | apply List.Mem.tail)) rfl) (by repeat (first | exact Ent.refl _ | (apply Ent.cons; (· repeat (first | exact Pick.here | (refine Pick.sl ?_; (· repeat (first | exact List.Mem.head _ | assumption | apply List.Mem.tail))) | apply Pick.there))) | (refine Ent.trans (Ent.drop _ _) ?_))) rfl ?_
        refine RH.val 4 rfl (by kernel_rfl) (by kernel_rfl) (by kernel_rfl) (Wanted.free rfl) (V.move rfl rfl) (by repeat (first | exact Ent.refl _ | (apply Ent.cons; (· repeat (first | exact Pick.here | (refine Pick.sl ?_; (· repeat (first | exact List.Mem.head _ | assumption | apply List.Mem.tail))) | apply Pick.there))) | (refine Ent.trans (Ent.drop _ _) ?_))) rfl ?_
        refine RH.val 5 rfl (by kernel_rfl) (by kernel_rfl) (by kernel_rfl) (Wanted.free rfl) (V.move rfl rfl) (by repeat (first | exact Ent.refl _ | (apply Ent.cons; (· repeat (first | exact Pick.here | (refine Pick.sl ?_; (· repeat (first | exact List.Mem.head _ | assumption | apply List.Mem.tail))) | apply Pick.there))) | (refine Ent.trans (Ent.drop _ _) ?_))) rfl ?_
        refine RH.val 6 rfl (by kernel_rfl) (by kernel_rfl) (by kernel_rfl) (Wanted.free rfl) (V.move rfl rfl) (by repeat (first | exact Ent.refl _ | (apply Ent.cons; (· repeat (first | exact Pick.here | (refine Pick.sl ?_; (· repeat (first | exact List.Mem.head _ | assumption | apply List.Mem.tail))) | apply Pick.there))) | (refine Ent.trans (Ent.drop _ _) ?_))) rfl ?_
        refine RH.val 7 rfl (by kernel_rfl) (by kernel_rfl) (by kernel_rfl) (Wanted.free rfl) (V.indexSl rfl el22.slice rfl rfl (by repeat (first | exact List.Mem.head _ | assumption | apply List.Mem.tail)) (by first | rfl | omega) (by omega)) (by repeat (first | exact Ent.refl _ | (apply Ent.cons; (· repeat (first | exact Pick.here | (refine Pick.sl ?_; (· repeat (first | exact List.Mem.head _ | assumption | apply List.Mem.tail))) | apply Pick.there))) | (refine Ent.trans (Ent.drop _ _) ?_))) rfl ?_
        refine RH.val 8 rfl (by kernel_rfl) (by kernel_rfl) (by kernel_rfl) (Wanted.free rfl) (V.loadAt rfl ag34 rfl (by repeat (first | exact List.Mem.head _ | assumption | apply List.Mem.tail)) rfl) (by repeat (first | exact Ent.refl _ | (apply Ent.cons; (· repeat (first | exact Pick.here | (refine Pick.sl ?_; (· repeat (first | exact List.Mem.head _ | assumption | apply List.Mem.tail))) | apply Pick.there))) | (refine Ent.trans (Ent.drop _ _) ?_))) rfl ?_
        refine RH.one (i := 9) (by kernel_rfl) ?_
        refine RHone.eff rfl (Wanted.free rfl) (E.call rfl go24 rfl (read_ok _ 20 (by repeat (first | exact Pick.here | apply Pick.there)) (by decide) (by decide) (by omega))) rfl ?_
        rintro _ _ ⟨l2, e2, w, a2, m2, c2, hr, rfl, rfl⟩
        rw [encVs_drop (by omega), rdV_enc hs1] at hr
        cases hr
        refine ⟨(by repeat (first | exact Ent.refl _ | (apply Ent.cons; (· repeat (first | exact Pick.here | (refine Pick.sl ?_; (· repeat (first | exact List.Mem.head _ | assumption | apply List.Mem.tail))) | apply Pick.there))) | (refine Ent.trans (Ent.drop _ _) ?_))), ?_⟩
        refine RH.one (i := 10) (by kernel_rfl) ?_
        refine RHone.eff rfl (Wanted.free rfl) (E.call rfl go18 rfl (same_true _ _ (by repeat (first | exact List.Mem.head _ | assumption | apply List.Mem.tail)) (by repeat (first | exact List.Mem.head _ | assumption | apply List.Mem.tail)) (sameV_only _))) rfl ?_
        rintro _ _ ⟨rfl, rfl⟩
        refine ⟨(by repeat (first | exact Ent.refl _ | (apply Ent.cons; (· repeat (first | exact Pick.here | (refine Pick.sl ?_; (· repeat (first | exact List.Mem.head _ | assumption | apply List.Mem.tail))) | apply Pick.there))) | (refine Ent.trans (Ent.drop _ _) ?_))), ?_⟩
        refine RH.val 11 rfl (by kernel_rfl) (by kernel_rfl) (by kernel_rfl) (Wanted.free rfl) (V.not rfl rfl) (by repeat (first | exact Ent.refl _ | (apply Ent.cons; (· repeat (first | exact Pick.here | (refine Pick.sl ?_; (· repeat (first | exact List.Mem.head _ | assumption | apply List.Mem.tail))) | apply Pick.there))) | (refine Ent.trans (Ent.drop _ _) ?_))) rfl ?_
        refine RH.done (by kernel_rfl) ?_
        refine SG.cond_false rfl ?_
        refine SG.skip ?_
        refine SG.inBlock ?_
        refine SG.region ?_
        refine RL.val (Wanted.free rfl) (V.move rfl rfl) rfl ?_
        refine RL.val (Wanted.free rfl) (V.bin rfl rfl rfl (B.addI (by omega) (by omega))) rfl ?_
        refine RL.val (Wanted.free rfl) (V.assign rfl rfl) rfl ?_
        refine RL.nil ?_
        refine SG.weaken (ih2 _ _ _ ?_ ⟨i + 1, by omega, rfl, rfl, rfl⟩) ?_ ?_
        · omega
        · repeat (first | exact EnvLe.nil _ | refine EnvLe.cons rfl ?_)
        · repeat (first | exact Ent.refl _ | (apply Ent.cons; (· repeat (first | exact Pick.here | (refine Pick.sl ?_; (· repeat (first | exact List.Mem.head _ | assumption | apply List.Mem.tail))) | apply Pick.there))) | (refine Ent.trans (Ent.drop _ _) ?_))
      · skip
        refine RL.nil ?_
        refine SG.cond_false rfl ?_
        refine SG.exit rfl ?_
        refine SG.seq ?_
        obtain rfl : i = fv.length := by omega
        rw [List.drop_length]
        refine SG.region ?_
        refine RL.val (Wanted.free rfl) (V.move rfl rfl) rfl ?_
        refine RL.eff (Wanted.free rfl) (E.call rfl go25 rfl (rEnd_ok (by repeat (first | exact Pick.here | apply Pick.there)))) rfl ?_
        rintro _ _ ⟨rfl, rfl⟩
        refine RL.cmpT (Wanted.free rfl) (V.bin rfl rfl rfl B.eql) rfl (by simp [encVs]) ?_
        refine RL.val (Wanted.free rfl) (V.move rfl rfl) rfl ?_
        refine RL.val (Wanted.yes rfl rfl rfl rfl) (V.fieldAddr rfl rfl fo27_0) rfl ?_
        refine RL.eff (Wanted.yes rfl rfl rfl rfl) (E.call rfl go15 rfl (done_ok (by repeat (first | exact Pick.here | apply Pick.there)) (by omega))) rfl ?_
        rintro _ _ ⟨a70, k70, c70, rfl, rfl⟩
        refine RL.val (Wanted.yes rfl rfl rfl rfl) (V.move rfl rfl) rfl ?_
        refine RL.eff (Wanted.yes rfl rfl rfl rfl) (E.call rfl go16 rfl (written_ok (by repeat (first | exact List.Mem.head _ | assumption | apply List.Mem.tail)) hsm (by omega))) rfl ?_
        rintro _ _ ⟨a72, k72, c72, rfl, rfl⟩
        refine RL.eff (Wanted.yes rfl rfl rfl rfl) (E.call rfl go14 rfl (sameBytes_true (by first | (apply Seen.sl; (· repeat (first | exact List.Mem.head _ | assumption | apply List.Mem.tail))) | (apply Seen.buf; (· repeat (first | exact Pick.here | apply Pick.there)))) (by first | (apply Seen.sl; (· repeat (first | exact List.Mem.head _ | assumption | apply List.Mem.tail))) | (apply Seen.buf; (· repeat (first | exact Pick.here | apply Pick.there)))) rfl)) rfl ?_
        rintro _ _ ⟨rfl, rfl⟩
        refine RL.val (Wanted.free rfl) (V.pick_true rfl rfl rfl) rfl ?_
        refine RL.val (Wanted.free rfl) (V.move rfl rfl) rfl ?_
        refine RL.eff (Wanted.yes rfl rfl rfl rfl) (E.call rfl go17 rfl (lives_ok)) rfl ?_
        rintro _ _ ⟨rfl, rfl⟩
        refine RL.val (Wanted.free rfl) (V.pick_true rfl rfl rfl) rfl ?_
        refine RL.val (Wanted.free rfl) (V.assign rfl rfl) rfl ?_
        refine RL.nil ?_
        refine SG.retE (Ret.r1 Try.func10 rfl (.tmp rfl)) ?_ ⟨rfl, rfl⟩
        repeat (first | exact Ent.refl _ | (apply Ent.cons; (· repeat (first | exact Pick.here | (refine Pick.sl ?_; (· repeat (first | exact List.Mem.head _ | assumption | apply List.Mem.tail))) | apply Pick.there))) | (refine Ent.trans (Ent.drop _ _) ?_))

end Go.Proofs.Ytdccpcnahbhfcaa
