/- The walks of the statements. -/
import Derived.Test.YtdccpcnahbhfcaaVals
namespace Go.Proofs.Ytdccpcnahbhfcaa
open Go.Wk Go.Wire

theorem fewV_small {l : List Val} (h : ∀ v ∈ l, v.ok) : ∀ v ∈ fewV l, v.small := fun v hv => by
  obtain ⟨u, hu, rfl⟩ := List.mem_map.1 hv
  exact cut_small (h u (List.mem_of_mem_take hu))
theorem fewV_length {l : List Val} : (fewV l).length ≤ 12 := by simp [fewV]; omega
theorem Sl.vok {κ w : World} {L : List Assn} {a : Option Addr} {m c : Nat} {l : List Val} (hs : Sep κ w L) (hm : Sl RVal a m c l ∈ L) : ∀ v ∈ l, v.ok := by
  obtain ⟨z, hz, h1, h2, h3, h4⟩ := hs.sl hm
  intro v hv
  rcases h4 with h4 | ⟨b, o, cs, _, _, hr⟩
  · subst h4; rw [List.eq_nil_of_length_eq_zero h1] at hv; cases hv
  · obtain ⟨i, hi⟩ := List.getElem?_of_mem hv
    obtain ⟨a', m', c', ⟨_, hok⟩, _⟩ := hr.2 i v hi
    exact hok

set_option maxRecDepth 100000 in
theorem writes_law {κ : World} {L : List Assn} {a : Option Addr} {n0 c : Nat} {l : List Val} (hm : Sl RVal a n0 c l ∈ L) :
    Ctr Try.prog 3 #[.slice a n0 c] κ L (fun v M => v = vB true ∧ M = L) := by
  refine Ctr.enter (vs := [.slice a n0 c]) (m := 39) Try.func3 rfl rfl rfl ?_
  refine SG.fact (fun w hs => Sl.vok hs hm) fun hvok => ?_
  have hsm := fewV_small hvok
  have h12 : (fewV l).length ≤ 12 := fewV_length
  refine SG.seq ?_
  refine SG.region ?_
  refine RL.val (Wanted.free rfl) (V.assign rfl rfl) rfl ?_
  refine RL.nil ?_
  refine SG.seq ?_
  refine SG.region ?_
  refine RL.eff (Wanted.free rfl) (E.alloc rfl ze27) rfl ?_
  rintro _ _ ⟨b3, rfl, rfl⟩
  have hW : Ent (Blk b3 27 [.slice none 0 0] :: L) (Wr b3 [] :: L) := Ent.trans (Ent.trans (Buf.nil (T := R8) (e := 5)) (Ent.swap _ _ _)) Wr.close
  refine RL.ent hW ?_
  refine RL.nil ?_
  refine SG.seq ?_
  refine SG.region ?_
  refine RL.val (Wanted.free rfl) (V.assign rfl rfl) rfl ?_
  refine RL.nil ?_
  refine SG.seq ?_
  refine SG.region ?_
  refine RL.val (Wanted.free rfl) (V.move rfl rfl) rfl ?_
  refine RL.eff (Wanted.free rfl) (E.call rfl go11 rfl (few2_ok (by repeat (first | exact List.Mem.head _ | assumption | apply List.Mem.tail)))) rfl ?_
  rintro _ _ ⟨a5, k5, c5, rfl, rfl⟩
  refine RL.publish (by repeat (first | exact Pick.here | apply Pick.there)) ?_
  refine RL.val (Wanted.free rfl) (V.assign rfl rfl) rfl ?_
  refine RL.nil ?_
  refine SG.seq ?_
  refine SG.seq ?_
  refine SG.region ?_
  refine RL.val (Wanted.free rfl) (V.assign rfl rfl) rfl ?_
  refine RL.nil ?_
  refine SG.block ?_
  generalize fewV l = fv at *
  refine SG.sl (List.Mem.head _) fun hfl _ _ => ?_
  subst hfl
  refine SG.ent (Buf.nil (T := R8) (e := 5)) ?_
  refine SG.weaken (SG.loop2 (fun m al M => ∃ (i : Nat) (a4 : Option Addr) (m4 c4 : Nat), i ≤ fv.length ∧ m = fv.length - i ∧ al = [(0, .slice a n0 c), (3, ptr b3 0), (4, .slice a4 m4 c4), (5, .slice a5 fv.length c5), (6, vI i)] ∧ M = Wr b3 (encVs (fv.take i)) :: Buf R8 5 a4 m4 c4 (encVs (fv.take i)) :: Sl RVal a5 fv.length c5 fv :: L) (m0 := _) ⟨0, none, 0, 0, by omega, rfl, rfl, rfl⟩ ?_) ?_ ?_
  rotate_left
  · repeat (first | exact EnvLe.nil _ | refine EnvLe.cons rfl ?_)
  · repeat (first | exact Ent.refl _ | (apply Ent.cons; (· repeat (first | exact Pick.here | (refine Pick.sl ?_; (· repeat (first | exact List.Mem.head _ | assumption | apply List.Mem.tail))) | apply Pick.there))) | (refine Ent.trans (Ent.drop _ _) ?_))
  rintro _ _ _ ⟨i, a4, m4, c4, hi, rfl, rfl, rfl⟩ ih0
  have hlen := encVs_length (l := fv.take i) (fun v h => hsm v (List.mem_of_mem_take h))
  rw [List.length_take] at hlen
  refine SG.buf (by repeat (first | exact Pick.here | apply Pick.there)) fun hk _ _ => ?_
  refine SG.seq ?_
  refine SG.seq ?_
  refine SG.region ?_
  refine RL.val (Wanted.free rfl) (V.move rfl rfl) rfl ?_
  refine RL.val (Wanted.free rfl) (V.move rfl rfl) rfl ?_
  refine RL.val (Wanted.free rfl) (V.len rfl rfl el22.under rfl) rfl ?_
  refine RL.cmp (Wanted.free rfl) (V.bin rfl rfl rfl B.lss) rfl (fun h11 => ?_) (fun h11 => ?_)
  · skip
    refine RL.nil ?_
    refine SG.cond_true rfl ?_
    refine SG.skip ?_
    refine SG.seq ?_
    refine SG.block ?_
    refine SG.seq ?_
    refine SG.region ?_
    refine RL.val (Wanted.free rfl) (V.move rfl rfl) rfl ?_
    refine RL.val (Wanted.free rfl) (V.move rfl rfl) rfl ?_
    refine RL.val (Wanted.free rfl) (V.indexSl rfl el22.slice rfl rfl (by repeat (first | exact List.Mem.head _ | assumption | apply List.Mem.tail)) (by first | rfl | omega) (by omega)) rfl ?_
    refine RL.eff (Wanted.free rfl) (E.loadElem rfl ag34 rfl (by repeat (first | exact List.Mem.head _ | assumption | apply List.Mem.tail)) (List.getElem?_eq_getElem (by omega))) rfl ?_
    rintro _ _ ⟨us1, rfl, rfl⟩
    refine RL.openVal (by repeat (first | exact Pick.here | apply Pick.there)) fun a1 m1 c1 hus hok => ?_
    subst hus
    have hs1 := hsm fv[i] (List.getElem_mem _)
    have hl1 := encV_length hs1
    refine RL.eff (Wanted.free rfl) (E.call rfl go12 rfl (write_ok _ (by repeat (first | exact Pick.here | apply Pick.there)) (by repeat (first | exact List.Mem.head _ | assumption | apply List.Mem.tail)) hs1.mid (by omega))) rfl ?_
    rintro _ _ ⟨rfl, rfl⟩
    refine RL.nil ?_
    refine SG.seq ?_
    refine SG.region ?_
    refine RL.val (Wanted.free rfl) (V.move rfl rfl) rfl ?_
    refine RL.val (Wanted.free rfl) (V.move rfl rfl) rfl ?_
    refine RL.val (Wanted.free rfl) (V.move rfl rfl) rfl ?_
    refine RL.val (Wanted.free rfl) (V.indexSl rfl el22.slice rfl rfl (by repeat (first | exact List.Mem.head _ | assumption | apply List.Mem.tail)) (by first | rfl | omega) (by omega)) rfl ?_
    refine RL.eff (Wanted.free rfl) (E.loadElem rfl ag34 rfl (by repeat (first | exact List.Mem.head _ | assumption | apply List.Mem.tail)) (List.getElem?_eq_getElem (by omega))) rfl ?_
    rintro _ _ ⟨us2, rfl, rfl⟩
    refine RL.openVal (by repeat (first | exact Pick.here | apply Pick.there)) fun a2 m2 c2 hus hok => ?_
    subst hus
    refine RL.eff (Wanted.free rfl) (E.call rfl go13 rfl (encoding_ok _ (by repeat (first | exact List.Mem.head _ | assumption | apply List.Mem.tail)) hs1)) rfl ?_
    rintro _ _ ⟨aV, kV, cV, rfl, rfl⟩
    refine RL.buf (a := aV) (by repeat (first | exact Pick.here | apply Pick.there)) fun h25 _ _ => ?_
    refine RL.eff (Wanted.free rfl) (E.append (T := R8) rfl rfl rfl el23 el23.noInt rfl rfl (by repeat (first | exact Pick.here | apply Pick.there)) (Src.buf (by decide) (by repeat (first | exact Pick.here | apply Pick.there))) (by first | omega | (simp; omega)) (by first | omega | (simp; omega))) rfl ?_
    intro _ _ hK23
    try rw [List.nil_append] at hK23
    try rw [Nat.zero_add] at hK23
    obtain ⟨aW, cW, rfl, rfl⟩ := hK23
    refine RL.val (Wanted.free rfl) (V.assign rfl rfl) rfl ?_
    refine RL.nil ?_
    refine SG.seq ?_
    refine SG.region ?_
    refine RL.val (Wanted.free rfl) (V.fieldAddr rfl rfl fo27_0) rfl ?_
    refine RL.eff (Wanted.free rfl) (E.call rfl go15 rfl (done_ok (by repeat (first | exact Pick.here | apply Pick.there)) (by simp only [List.length_append]; omega))) rfl ?_
    rintro _ _ ⟨a26, k26, c26, rfl, rfl⟩
    refine RL.val (Wanted.free rfl) (V.move rfl rfl) rfl ?_
    refine RL.eff (Wanted.free rfl) (E.call rfl go14 rfl (sameBytes_true (by first | (apply Seen.sl; (· repeat (first | exact List.Mem.head _ | assumption | apply List.Mem.tail))) | (apply Seen.buf; (· repeat (first | exact Pick.here | apply Pick.there)))) (by first | (apply Seen.sl; (· repeat (first | exact List.Mem.head _ | assumption | apply List.Mem.tail))) | (apply Seen.buf; (· repeat (first | exact Pick.here | apply Pick.there)))) rfl)) rfl ?_
    rintro _ _ ⟨rfl, rfl⟩
    refine RL.val (Wanted.free rfl) (V.not rfl rfl) rfl ?_
    refine RL.nil ?_
    refine SG.cond_false rfl ?_
    refine SG.skip ?_
    refine SG.inBlock ?_
    refine SG.region ?_
    refine RL.val (Wanted.free rfl) (V.move rfl rfl) rfl ?_
    refine RL.val (Wanted.free rfl) (V.bin rfl rfl rfl (B.addI (by omega) (by omega))) rfl ?_
    refine RL.val (Wanted.free rfl) (V.assign rfl rfl) rfl ?_
    refine RL.nil ?_
    refine SG.weaken (ih0 _ _ _ ?_ ⟨i + 1, aW, m4 + (encV fv[i]).length, cW, by omega, rfl, rfl, rfl⟩) ?_ ?_
    · omega
    · repeat (first | exact EnvLe.nil _ | refine EnvLe.cons rfl ?_)
    · rw [show fv.take (i + 1) = fv.take i ++ [fv[i]] from by rw [List.take_add_one, List.getElem?_eq_getElem (by omega)]; rfl, encVs_snoc]
      repeat (first | exact Ent.refl _ | (apply Ent.cons; (· repeat (first | exact Pick.here | (refine Pick.sl ?_; (· repeat (first | exact List.Mem.head _ | assumption | apply List.Mem.tail))) | apply Pick.there))) | (refine Ent.trans (Ent.drop _ _) ?_))
  · skip
    refine RL.nil ?_
    refine SG.cond_false rfl ?_
    refine SG.exit rfl ?_
    refine SG.seq ?_
    refine SG.region ?_
    refine RL.val (Wanted.free rfl) (V.move rfl rfl) rfl ?_
    refine RL.eff (Wanted.free rfl) (E.call rfl go16 rfl (written_ok (by repeat (first | exact List.Mem.head _ | assumption | apply List.Mem.tail)) hsm (by omega))) rfl ?_
    rintro _ _ ⟨a33, k33, c33, rfl, rfl⟩
    refine RL.val (Wanted.free rfl) (V.move rfl rfl) rfl ?_
    refine RL.eff (Wanted.free rfl) (E.call rfl go14 rfl (sameBytes_true (by first | (apply Seen.sl; (· repeat (first | exact List.Mem.head _ | assumption | apply List.Mem.tail))) | (apply Seen.buf; (· repeat (first | exact Pick.here | apply Pick.there)))) (by first | (apply Seen.sl; (· repeat (first | exact List.Mem.head _ | assumption | apply List.Mem.tail))) | (apply Seen.buf; (· repeat (first | exact Pick.here | apply Pick.there)))) (by rw [show i = fv.length from by omega, List.take_length]))) rfl ?_
    rintro _ _ ⟨rfl, rfl⟩
    refine RL.val (Wanted.free rfl) (V.move rfl rfl) rfl ?_
    refine RL.eff (Wanted.yes rfl rfl rfl rfl) (E.call rfl go17 rfl (lives_ok)) rfl ?_
    rintro _ _ ⟨rfl, rfl⟩
    refine RL.val (Wanted.free rfl) (V.pick_true rfl rfl rfl) rfl ?_
    refine RL.val (Wanted.free rfl) (V.assign rfl rfl) rfl ?_
    refine RL.nil ?_
    refine SG.retE (Ret.r1 Try.func3 rfl (.tmp rfl)) ?_ ⟨rfl, rfl⟩
    repeat (first | exact Ent.refl _ | (apply Ent.cons; (· repeat (first | exact Pick.here | (refine Pick.sl ?_; (· repeat (first | exact List.Mem.head _ | assumption | apply List.Mem.tail))) | apply Pick.there))) | (refine Ent.trans (Ent.drop _ _) ?_))

end Go.Proofs.Ytdccpcnahbhfcaa
