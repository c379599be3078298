/- The reference: Campaign, Propose, Beat. -/
import Derived.Test.YtilcnglcflohoaaRefb
namespace Go.Proofs.Ytilcnglcflohoaa
open Go.Wk Go.Rp

set_option maxRecDepth 100000 in
set_option maxHeartbeats 1000000 in
theorem rCamp_ok {κ : World} {L : List Assn} {us : List Value} {p : Peer} (hm : Rd RPeer us p ∈ L) (hb1 : p.log.length ≤ 900000) (hb2 : p.votes.length ≤ 1000) (hb3 : p.mtch.length ≤ 1000) (hn1 : 1 ≤ p.nodes) (hn5 : p.nodes ≤ 5) (hi0 : 0 ≤ p.id) (hi1 : p.id < p.nodes) (ht0 : 0 ≤ p.term) (ht1 : p.term ≤ 1000000) :
    Ctr Try.prog 17 #[.agg us.toArray] κ L (fun v M => ∃ us' a c, v = .tuple #[.agg us'.toArray, .slice a (campaign p).2.length c] ∧ M = Rd RPeer us' (campaign p).1 :: Sl RMsg a (campaign p).2.length c (campaign p).2 :: L) := by
  refine Ctr.enter (vs := [.agg us.toArray]) (m := 56) Try.func17 rfl rfl rfl ?_
  refine SG.openPeer (Pick.rd hm) fun ka kn kc wa wn wc xa xn xc hus => ?_
  subst hus
  refine SG.sl (T := RSlot) (a := ka) (by repeat (first | exact List.Mem.head _ | assumption | apply List.Mem.tail)) fun hkn _ _ => ?_
  subst hkn
  refine SG.ent (Sl.nil (T := RI)) ?_
  refine SG.ent (Sl.nil (T := RSlot)) ?_
  obtain ⟨N, hN⟩ := Int.eq_ofNat_of_zero_le (show 0 ≤ p.nodes by omega)
  have hNt : p.nodes.toNat = N := by omega
  have hcqi : (campQ p).id = p.id := rfl
  have hcqn : (campQ p).nodes = p.nodes := rfl
  have hcqt : (campQ p).term = p.term + 1 := rfl
  refine SG.seq ?_
  refine SG.region ?_
  refine RL.eff (Wanted.free rfl) (E.box _ rfl rfl rfl) rfl ?_
  rintro _ _ ⟨b1, rfl, rfl⟩
  refine RL.eff (Wanted.free rfl) (E.alloc rfl ze26) rfl ?_
  rintro _ _ ⟨b2, rfl, rfl⟩
  refine RL.val (Wanted.free rfl) (V.assign rfl rfl) rfl ?_
  refine RL.nil ?_
  refine SG.seq ?_
  refine SG.region ?_
  refine RL.val (Wanted.free rfl) (V.fieldAddr rfl rfl fo26_2) rfl ?_
  refine RL.val (Wanted.free rfl) (V.load rfl on3 rfl (by repeat (first | exact Pick.here | assumption | apply Pick.there)) rfl) rfl ?_
  refine RL.val (Wanted.free rfl) (V.bin rfl rfl rfl (B.addI (by omega) (by omega))) rfl ?_
  refine RL.val (Wanted.free rfl) (V.fieldAddr rfl rfl fo26_2) rfl ?_
  refine RL.eff (Wanted.free rfl) (E.store1 rfl rfl rfl rfl rfl sz3 (by repeat (first | exact Pick.here | assumption | apply Pick.there)) rfl) rfl ?_
  rintro _ _ rfl
  refine RL.nil ?_
  refine SG.seq ?_
  refine SG.region ?_
  refine RL.val (Wanted.free rfl) (V.fieldAddr rfl rfl fo26_0) rfl ?_
  refine RL.val (Wanted.free rfl) (V.load rfl on3 rfl (by repeat (first | exact Pick.here | assumption | apply Pick.there)) rfl) rfl ?_
  refine RL.val (Wanted.free rfl) (V.fieldAddr rfl rfl fo26_3) rfl ?_
  refine RL.eff (Wanted.free rfl) (E.store1 rfl rfl rfl rfl rfl sz3 (by repeat (first | exact Pick.here | assumption | apply Pick.there)) rfl) rfl ?_
  rintro _ _ rfl
  refine RL.nil ?_
  refine SG.seq ?_
  refine SG.region ?_
  refine RL.val (Wanted.free rfl) (V.fieldAddr rfl rfl fo26_4) rfl ?_
  refine RL.eff (Wanted.free rfl) (E.store1 rfl rfl rfl rfl rfl sz3 (by repeat (first | exact Pick.here | assumption | apply Pick.there)) rfl) rfl ?_
  rintro _ _ rfl
  refine RL.nil ?_
  refine SG.seq ?_
  refine SG.region ?_
  refine RL.val (Wanted.free rfl) (V.fieldAddr rfl rfl fo26_8) rfl ?_
  refine RL.eff (Wanted.free rfl) (E.store1 rfl rfl rfl rfl rfl sz22 (by repeat (first | exact Pick.here | assumption | apply Pick.there)) rfl) rfl ?_
  rintro _ _ rfl
  refine RL.nil ?_
  refine SG.seq ?_
  refine SG.region ?_
  refine RL.val (Wanted.free rfl) (V.fieldAddr rfl rfl fo26_1) rfl ?_
  refine RL.val (Wanted.free rfl) (V.load rfl on3 rfl (by repeat (first | exact Pick.here | assumption | apply Pick.there)) rfl) rfl ?_
  refine RL.val (Wanted.free rfl) (V.fieldAddr rfl rfl fo26_0) rfl ?_
  refine RL.val (Wanted.free rfl) (V.load rfl on3 rfl (by repeat (first | exact Pick.here | assumption | apply Pick.there)) rfl) rfl ?_
  refine RL.eff (Wanted.free rfl) (E.call rfl go61 rfl (flags_ok (n := p.nodes.toNat) (n1 := p.nodes) (j := p.id) (by omega) (by omega) (by omega) (by omega))) rfl ?_
  rintro _ _ ⟨a19, c19, rfl, rfl⟩
  refine RL.val (Wanted.free rfl) (V.fieldAddr rfl rfl fo26_7) rfl ?_
  refine RL.eff (Wanted.free rfl) (E.store1 rfl rfl rfl rfl rfl sz24 (by repeat (first | exact Pick.here | assumption | apply Pick.there)) rfl) rfl ?_
  rintro _ _ rfl
  refine RL.nil ?_
  refine SG.seq ?_
  refine SG.publish (T := RB) (a := a19) (by repeat (first | exact Pick.here | assumption | apply Pick.there)) ?_
  refine SG.ent (Buf.nil (T := RMsg) (e := 50)) ?_
  refine SG.region ?_
  refine RL.val (Wanted.free rfl) (V.assign rfl rfl) rfl ?_
  refine RL.nil ?_
  refine SG.seq ?_
  refine SG.seq ?_
  refine SG.region ?_
  refine RL.val (Wanted.free rfl) (V.assign rfl rfl) rfl ?_
  refine RL.nil ?_
  refine SG.block ?_
  refine SG.weaken (SG.loop2 (fun m al M => ∃ (i : Nat) (a4 : Option Addr) (c4 : Nat), i ≤ p.nodes.toNat ∧ m = p.nodes.toNat - i ∧ al = [(1, ptr b1 0), (2, ptr b2 0), (4, .slice a4 (othersN p (campM p) i).length c4), (5, vI i)] ∧ M = Buf RMsg 50 a4 (othersN p (campM p) i).length c4 (othersN p (campM p) i) :: Blk b1 26 (pv (campQ p) (.slice ka p.log.length kc) (.slice a19 p.nodes.toNat c19) (.slice none 0 0)) :: Sl RSlot ka p.log.length kc p.log :: Sl RB a19 p.nodes.toNat c19 (campQ p).votes :: Sl RI none 0 0 ([] : List Int) :: Sl RSlot none 0 0 ([] : List Slot) :: Blk b2 26 [.int .i64 0, .int .i64 0, .int .i64 0, .int .i64 0, .int .i64 0, .int .i64 0, .slice none 0 0, .slice none 0 0, .slice none 0 0] :: L) (m0 := _) ⟨0, none, 0, by omega, rfl, rfl, rfl⟩ ?_) ?_ ?_
  rotate_left
  · repeat (first | exact EnvLe.nil _ | refine EnvLe.cons rfl ?_)
  · repeat (first | exact Ent.refl _ | (apply Ent.cons; (· repeat (first | exact Pick.here | (refine Pick.sl ?_; (· repeat (first | exact List.Mem.head _ | assumption | apply List.Mem.tail))) | apply Pick.there))) | (refine Ent.trans (Ent.drop _ _) ?_))
  rintro _ _ _ ⟨i, a4, c4, hi, rfl, rfl, rfl⟩ ih0
  refine SG.seq ?_
  refine SG.seq ?_
  refine SG.region ?_
  refine RL.val (Wanted.free rfl) (V.move rfl rfl) rfl ?_
  refine RL.val (Wanted.free rfl) (V.fieldAddr rfl rfl fo26_1) rfl ?_
  refine RL.val (Wanted.free rfl) (V.load rfl on3 rfl (by repeat (first | exact Pick.here | assumption | apply Pick.there)) rfl) rfl ?_
  refine RL.cmp (Wanted.free rfl) (V.bin rfl rfl rfl B.lss) rfl (fun h29 => ?_) (fun h29 => ?_)
  · skip
    refine RL.nil ?_
    refine SG.cond_true rfl ?_
    refine SG.skip ?_
    refine SG.seq ?_
    refine SG.block ?_
    refine SG.seq ?_
    refine SG.region ?_
    refine RL.val (Wanted.free rfl) (V.move rfl rfl) rfl ?_
    refine RL.val (Wanted.free rfl) (V.fieldAddr rfl rfl fo26_0) rfl ?_
    refine RL.val (Wanted.free rfl) (V.load rfl on3 rfl (by repeat (first | exact Pick.here | assumption | apply Pick.there)) rfl) rfl ?_
    refine RL.cmp (Wanted.free rfl) (V.bin rfl rfl rfl B.neq) rfl (fun h33 => ?_) (fun h33 => ?_)
    · skip
      refine RL.nil ?_
      refine SG.cond_true rfl ?_
      have hol := othersN_len p (campM p) i
      refine SG.drawN 19 19 (Blk b1 26 (pv (campQ p) (.slice ka p.log.length kc) (.slice a19 p.nodes.toNat c19) (.slice none 0 0)) :: Sl RSlot ka p.log.length kc p.log :: Sl RB a19 p.nodes.toNat c19 (campQ p).votes :: Sl RI none 0 0 ([] : List Int) :: Sl RSlot none 0 0 ([] : List Slot) :: L) wide rfl rfl (by repeat (first | exact Ent.refl _ | (apply Ent.cons; (· repeat (first | exact Pick.here | (refine Pick.sl ?_; (· repeat (first | exact List.Mem.head _ | assumption | apply List.Mem.tail))) | apply Pick.there))) | (refine Ent.trans (Ent.drop _ _) ?_))) ?_
      refine RH.val 0 rfl (by kernel_rfl) (by kernel_rfl) (by kernel_rfl) (by kernel_rfl) (Wanted.free rfl) (V.move rfl rfl) rfl ?_
      refine RH.val 1 rfl (by kernel_rfl) (by kernel_rfl) (by kernel_rfl) (by kernel_rfl) (Wanted.free rfl) (V.fieldAddr rfl rfl fo26_0) rfl ?_
      refine RH.val 2 rfl (by kernel_rfl) (by kernel_rfl) (by kernel_rfl) (by kernel_rfl) (Wanted.free rfl) (V.load rfl on3 rfl (by repeat (first | exact Pick.here | assumption | apply Pick.there)) rfl) rfl ?_
      refine RH.val 3 rfl (by kernel_rfl) (by kernel_rfl) (by kernel_rfl) (by kernel_rfl) (Wanted.free rfl) (V.move rfl rfl) rfl ?_
      refine RH.val 4 rfl (by kernel_rfl) (by kernel_rfl) (by kernel_rfl) (by kernel_rfl) (Wanted.free rfl) (V.fieldAddr rfl rfl fo26_2) rfl ?_
      refine RH.val 5 rfl (by kernel_rfl) (by kernel_rfl) (by kernel_rfl) (by kernel_rfl) (Wanted.free rfl) (V.load rfl on3 rfl (by repeat (first | exact Pick.here | assumption | apply Pick.there)) rfl) rfl ?_
      refine RH.val 6 rfl (by kernel_rfl) (by kernel_rfl) (by kernel_rfl) (by kernel_rfl) (Wanted.free rfl) (V.fieldAddr rfl rfl fo26_6) rfl ?_
      refine RH.val 7 rfl (by kernel_rfl) (by kernel_rfl) (by kernel_rfl) (by kernel_rfl) (Wanted.free rfl) (V.load rfl on23 rfl (by repeat (first | exact Pick.here | assumption | apply Pick.there)) rfl) rfl ?_
      refine RH.val 8 rfl (by kernel_rfl) (by kernel_rfl) (by kernel_rfl) (by kernel_rfl) (Wanted.free rfl) (V.len rfl rfl el23.under rfl) rfl ?_
      refine RH.val 9 rfl (by kernel_rfl) (by kernel_rfl) (by kernel_rfl) (by kernel_rfl) (Wanted.free rfl) (V.fieldAddr rfl rfl fo26_6) rfl ?_
      refine RH.val 10 rfl (by kernel_rfl) (by kernel_rfl) (by kernel_rfl) (by kernel_rfl) (Wanted.free rfl) (V.load rfl on23 rfl (by repeat (first | exact Pick.here | assumption | apply Pick.there)) rfl) rfl ?_
      refine RH.val 11 rfl (by kernel_rfl) (by kernel_rfl) (by kernel_rfl) (by kernel_rfl) (Wanted.free rfl) (V.fieldAddr rfl rfl fo26_6) rfl ?_
      refine RH.val 12 rfl (by kernel_rfl) (by kernel_rfl) (by kernel_rfl) (by kernel_rfl) (Wanted.free rfl) (V.load rfl on23 rfl (by repeat (first | exact Pick.here | assumption | apply Pick.there)) rfl) rfl ?_
      refine RH.val 13 rfl (by kernel_rfl) (by kernel_rfl) (by kernel_rfl) (by kernel_rfl) (Wanted.free rfl) (V.len rfl rfl el23.under rfl) rfl ?_
      refine RH.one (i := 14) (by kernel_rfl) ?_
      refine RHone.eff rfl (Wanted.free rfl) (E.call rfl go62 rfl (rterm_ok (l := p.log) (i := (p.log.length : Int)) (by repeat (first | exact List.Mem.head _ | assumption | apply List.Mem.tail)) (by omega) (by omega))) rfl ?_
      rintro _ _ ⟨rfl, rfl⟩
      refine ⟨.inr (by repeat (first | exact Ent.refl _ | (apply Ent.cons; (· repeat (first | exact Pick.here | (refine Pick.sl ?_; (· repeat (first | exact List.Mem.head _ | assumption | apply List.Mem.tail))) | apply Pick.there))) | (refine Ent.trans (Ent.drop _ _) ?_))), ?_⟩
      refine RH.val 15 rfl (by kernel_rfl) (by kernel_rfl) (by kernel_rfl) (by kernel_rfl) (Wanted.free rfl) (V.buildS [(0, _), (1, _), (2, _), (3, _), (4, _), (5, _)] rfl bs50 (by exact ⟨rfl, ⟨_, rfl, rfl⟩, ⟨rfl, ⟨_, rfl, rfl⟩, ⟨rfl, ⟨_, rfl, rfl⟩, ⟨rfl, ⟨_, rfl, rfl⟩, ⟨rfl, ⟨_, rfl, rfl⟩, ⟨rfl, ⟨_, rfl, rfl⟩, trivial⟩⟩⟩⟩⟩⟩) rfl) rfl ?_
      refine RH.one (i := 16) (by kernel_rfl) ?_
      refine RHone.eff rfl (Wanted.free rfl) (E.lit1 (mv (campM p i) (.slice none 0 0)) rfl el35.slice ze50 rfl (by decide) (by decide) rfl rfl rfl) rfl ?_
      rintro _ _ ⟨b47, rfl, rfl⟩
      refine ⟨.inr (by repeat (first | exact Ent.refl _ | (apply Ent.cons; (· repeat (first | exact Pick.here | (refine Pick.sl ?_; (· repeat (first | exact List.Mem.head _ | assumption | apply List.Mem.tail))) | apply Pick.there))) | (refine Ent.trans (Ent.drop _ _) ?_))), ?_⟩
      refine RH.ent (RMsg.mk (m := campM p i) (a := none) (n' := 0) (c := 0) (by repeat (first | exact List.Mem.head _ | assumption | apply List.Mem.tail))) ?_
      refine RH.one (i := 17) (by kernel_rfl) ?_
      refine RHone.eff rfl (Wanted.free rfl) (E.append (T := RMsg) rfl rfl rfl el35 el35.noInt rfl rfl (by repeat (first | exact Pick.here | assumption | apply Pick.there)) (Src.litRd (T := RMsg) (y := campM p i) (by repeat (first | exact Pick.here | assumption | apply Pick.there)) (by repeat (first | exact List.Mem.head _ | assumption | apply List.Mem.tail))) (by first | omega | (simp; omega)) (by first | omega | (simp; omega))) rfl ?_
      intro _ _ hK51
      try rw [List.nil_append] at hK51
      try rw [Nat.zero_add] at hK51
      obtain ⟨a48, c48, rfl, rfl⟩ := hK51
      refine ⟨.inr (by repeat (first | exact Ent.refl _ | (apply Ent.cons; (· repeat (first | exact Pick.here | (refine Pick.sl ?_; (· repeat (first | exact List.Mem.head _ | assumption | apply List.Mem.tail))) | apply Pick.there))) | (refine Ent.trans (Ent.drop _ _) ?_))), ?_⟩
      refine RH.val 18 rfl (by kernel_rfl) (by kernel_rfl) (by kernel_rfl) (by kernel_rfl) (Wanted.free rfl) (V.assign rfl rfl) rfl ?_
      refine RH.done (by kernel_rfl) ?_
      refine SG.inBlock ?_
      refine SG.region ?_
      refine RL.val (Wanted.free rfl) (V.move rfl rfl) rfl ?_
      refine RL.val (Wanted.free rfl) (V.bin rfl rfl rfl (B.addI (by omega) (by omega))) rfl ?_
      refine RL.val (Wanted.free rfl) (V.assign rfl rfl) rfl ?_
      refine RL.nil ?_
      have hoy := others_yes (p := p) (f := campM p) (i := i) (by omega)
      refine SG.weaken (ih0 _ _ _ ?_ ⟨i + 1, a48, c48, by omega, rfl, rfl, rfl⟩) ?_ ?_
      · omega
      · rw [hoy, List.length_append, List.length_singleton]
        repeat (first | exact EnvLe.nil _ | refine EnvLe.cons rfl ?_)
      · rw [hoy, List.length_append, List.length_singleton]
        repeat (first | exact Ent.refl _ | (apply Ent.cons; (· repeat (first | exact Pick.here | (refine Pick.sl ?_; (· repeat (first | exact List.Mem.head _ | assumption | apply List.Mem.tail))) | apply Pick.there))) | (refine Ent.trans (Ent.drop _ _) ?_))
    · skip
      refine RL.nil ?_
      refine SG.cond_false rfl ?_
      refine SG.skip ?_
      refine SG.inBlock ?_
      refine SG.region ?_
      refine RL.val (Wanted.free rfl) (V.move rfl rfl) rfl ?_
      refine RL.val (Wanted.free rfl) (V.bin rfl rfl rfl (B.addI (by omega) (by omega))) rfl ?_
      refine RL.val (Wanted.free rfl) (V.assign rfl rfl) rfl ?_
      refine RL.nil ?_
      have hoy := others_no (p := p) (f := campM p) (i := i) (by omega)
      refine SG.weaken (ih0 _ _ _ ?_ ⟨i + 1, a4, c4, by omega, rfl, rfl, rfl⟩) ?_ ?_
      · omega
      · rw [hoy]
        repeat (first | exact EnvLe.nil _ | refine EnvLe.cons rfl ?_)
      · rw [hoy]
        repeat (first | exact Ent.refl _ | (apply Ent.cons; (· repeat (first | exact Pick.here | (refine Pick.sl ?_; (· repeat (first | exact List.Mem.head _ | assumption | apply List.Mem.tail))) | apply Pick.there))) | (refine Ent.trans (Ent.drop _ _) ?_))
  · skip
    refine RL.nil ?_
    refine SG.cond_false rfl ?_
    refine SG.exit rfl ?_
    refine SG.seq ?_
    refine SG.seq ?_
    obtain rfl : i = p.nodes.toNat := by omega
    rw [others_all]
    refine SG.publish (T := RMsg) (a := a4) (by repeat (first | exact Pick.here | assumption | apply Pick.there)) ?_
    refine SG.ent (RPeer.mk (p := campQ p) (la := ka) (ln := p.log.length) (lc := kc) (va := a19) (vn := p.nodes.toNat) (vc := c19) (ma := none) (mn := 0) (mc := 0) (by repeat (first | exact List.Mem.head _ | assumption | apply List.Mem.tail)) (by repeat (first | exact List.Mem.head _ | assumption | apply List.Mem.tail)) (by repeat (first | exact List.Mem.head _ | assumption | apply List.Mem.tail))) ?_
    refine SG.region ?_
    refine RL.val (Wanted.free rfl) (V.fieldAddr rfl rfl fo26_1) rfl ?_
    refine RL.val (Wanted.free rfl) (V.load rfl on3 rfl (by repeat (first | exact Pick.here | assumption | apply Pick.there)) rfl) rfl ?_
    refine RL.cmp (Wanted.free rfl) (V.bin rfl rfl rfl B.eql) rfl (fun h61 => ?_) (fun h61 => ?_)
    · skip
      refine RL.nil ?_
      refine SG.cond_true rfl ?_
      refine SG.region ?_
      refine RL.val (Wanted.free rfl) (V.loadAgg (us := pv (campQ p) (.slice ka p.log.length kc) (.slice a19 p.nodes.toNat c19) (.slice none 0 0)) rfl ag26 rfl (by repeat (first | exact Pick.here | assumption | apply Pick.there)) rfl rfl) rfl ?_
      refine RL.eff (Wanted.free rfl) (E.call rfl go63 rfl (rlead_ok (p := campQ p) (by repeat (first | exact List.Mem.head _ | assumption | apply List.Mem.tail)) (by show 0 ≤ p.nodes; omega) (by show p.nodes ≤ 1000; omega) hi0 (by show p.log.length ≤ _; omega))) rfl ?_
      rintro _ _ ⟨u53, rfl, rfl⟩
      refine RL.openPeer (us := u53) (Pick.rd (T := RPeer) (by repeat (first | exact List.Mem.head _ | assumption | apply List.Mem.tail))) fun ja jn jc ga gn gc ha hn hc hus => ?_
      subst hus
      refine RL.eff (Wanted.free rfl) (E.storeWhole rfl rfl rfl (by rfl) sz26 (by repeat (first | exact Pick.here | assumption | apply Pick.there)) pv_one (by rfl)) rfl ?_
      rintro _ _ rfl
      refine RL.nil ?_
      refine SG.seq ?_
      have hcm : (campaign p).1 = leadP (campQ p) := if_pos (by omega)
      refine SG.region ?_
      refine RL.val (Wanted.free rfl) (V.loadAgg (us := pv (leadP (campQ p)) (.slice ja jn jc) (.slice ga gn gc) (.slice ha hn hc)) rfl ag26 rfl (by repeat (first | exact Pick.here | assumption | apply Pick.there)) rfl rfl) rfl ?_
      refine RL.val (Wanted.free rfl) (V.move rfl rfl) rfl ?_
      refine RL.eff (Wanted.free rfl) (E.storeWhole rfl rfl rfl (by rfl) sz26 (by repeat (first | exact Pick.here | assumption | apply Pick.there)) pv_one (by rfl)) rfl ?_
      rintro _ _ rfl
      refine RL.val (Wanted.free rfl) (V.assign rfl rfl) rfl ?_
      refine RL.nil ?_
      rw [hcm]
      refine SG.retE (Ret.r2 Try.func17 rfl (.agg rfl ag26 (by repeat (first | exact Pick.here | assumption | apply Pick.there)) rfl rfl) (.tmp rfl)) ?_ ⟨_, _, _, rfl, rfl⟩
      repeat (first | exact Ent.refl _ | (apply Ent.cons; (· repeat (first | exact Pick.here | (refine Pick.sl ?_; (· repeat (first | exact List.Mem.head _ | assumption | apply List.Mem.tail))) | apply Pick.there))) | (refine Ent.trans (Ent.drop _ _) ?_))
    · skip
      refine RL.nil ?_
      refine SG.cond_false rfl ?_
      refine SG.skip ?_
      refine SG.seq ?_
      have hcm : (campaign p).1 = campQ p := if_neg (by omega)
      refine SG.region ?_
      refine RL.val (Wanted.free rfl) (V.loadAgg (us := pv (campQ p) (.slice ka p.log.length kc) (.slice a19 p.nodes.toNat c19) (.slice none 0 0)) rfl ag26 rfl (by repeat (first | exact Pick.here | assumption | apply Pick.there)) rfl rfl) rfl ?_
      refine RL.val (Wanted.free rfl) (V.move rfl rfl) rfl ?_
      refine RL.eff (Wanted.free rfl) (E.storeWhole rfl rfl rfl (by rfl) sz26 (by repeat (first | exact Pick.here | assumption | apply Pick.there)) pv_one (by rfl)) rfl ?_
      rintro _ _ rfl
      refine RL.val (Wanted.free rfl) (V.assign rfl rfl) rfl ?_
      refine RL.nil ?_
      rw [hcm]
      refine SG.retE (Ret.r2 Try.func17 rfl (.agg rfl ag26 (by repeat (first | exact Pick.here | assumption | apply Pick.there)) rfl rfl) (.tmp rfl)) ?_ ⟨_, _, _, rfl, rfl⟩
      repeat (first | exact Ent.refl _ | (apply Ent.cons; (· repeat (first | exact Pick.here | (refine Pick.sl ?_; (· repeat (first | exact List.Mem.head _ | assumption | apply List.Mem.tail))) | apply Pick.there))) | (refine Ent.trans (Ent.drop _ _) ?_))

set_option maxRecDepth 100000 in
set_option maxHeartbeats 1000000 in
theorem rProp_ok {κ : World} {L : List Assn} {us : List Value} {p : Peer} (hm : Rd RPeer us p ∈ L) (hb1 : p.log.length ≤ 900000) (hb2 : p.votes.length ≤ 1000) (hb3 : p.mtch.length ≤ 1000) (hn1 : 1 ≤ p.nodes) (hn5 : p.nodes ≤ 5) (hi0 : 0 ≤ p.id) (hi1 : p.id < p.nodes) (ht0 : 0 ≤ p.term) (ht1 : p.term ≤ 1000000) {data : List UInt8} (hr : p.role = 2 → p.mtch.length = p.nodes.toNat) (hc0 : 0 ≤ p.commit) (hc1 : p.commit ≤ p.log.length) :
    Ctr Try.prog 19 #[.agg us.toArray, vS data] κ L (fun v M => ∃ us', v = .tuple #[.agg us'.toArray, vI (propV p data).2] ∧ M = Rd RPeer us' (propV p data).1 :: L) := by
  refine Ctr.enter (vs := [.agg us.toArray, vS data]) (m := 35) Try.func19 rfl rfl rfl ?_
  refine SG.openPeer (Pick.rd hm) fun ka kn kc wa wn wc xa xn xc hus => ?_
  subst hus
  refine SG.sl (T := RSlot) (a := ka) (by repeat (first | exact List.Mem.head _ | assumption | apply List.Mem.tail)) fun hkn _ _ => ?_
  subst hkn
  refine SG.seq ?_
  refine SG.region ?_
  refine RL.eff (Wanted.free rfl) (E.box _ rfl rfl rfl) rfl ?_
  rintro _ _ ⟨b2, rfl, rfl⟩
  refine RL.eff (Wanted.free rfl) (E.alloc rfl ze26) rfl ?_
  rintro _ _ ⟨b4, rfl, rfl⟩
  refine RL.val (Wanted.free rfl) (V.assign rfl rfl) rfl ?_
  refine RL.nil ?_
  refine SG.seq ?_
  refine SG.seq ?_
  refine SG.region ?_
  refine RL.val (Wanted.free rfl) (V.fieldAddr rfl rfl fo26_4) rfl ?_
  refine RL.val (Wanted.free rfl) (V.load rfl on3 rfl (by repeat (first | exact Pick.here | assumption | apply Pick.there)) rfl) rfl ?_
  refine RL.cmp (Wanted.free rfl) (V.bin rfl rfl rfl B.neq) rfl (fun h6 => ?_) (fun h6 => ?_)
  · skip
    refine RL.nil ?_
    refine SG.cond_true rfl ?_
    refine SG.seq ?_
    refine SG.region ?_
    refine RL.val (Wanted.free rfl) (V.buildS [] rfl bs26 (by exact trivial) rfl) rfl ?_
    refine RL.eff (Wanted.free rfl) (E.storeWhole rfl rfl rfl (by rfl) sz26 (by repeat (first | exact Pick.here | assumption | apply Pick.there)) (by first | (simp [Value.oneCell']; done) | (simp [setAt, Value.oneCell']; done)) (by rfl)) rfl ?_
    rintro _ _ rfl
    refine RL.val (Wanted.free rfl) (V.assign rfl rfl) rfl ?_
    refine RL.nil ?_
    refine SG.ent (RPeer.nil (p := zP) rfl rfl rfl) ?_
    refine SG.retE (Ret.r2 Try.func19 rfl (.agg rfl ag26 (by repeat (first | exact Pick.here | assumption | apply Pick.there)) rfl rfl) (.tmp rfl)) ?_ ⟨_, by rw [propV, if_pos (by omega)], by rw [propV, if_pos (by omega)]⟩
    repeat (first | exact Ent.refl _ | (apply Ent.cons; (· repeat (first | exact Pick.here | (refine Pick.sl ?_; (· repeat (first | exact List.Mem.head _ | assumption | apply List.Mem.tail))) | apply Pick.there))) | (refine Ent.trans (Ent.drop _ _) ?_))
  · skip
    refine RL.nil ?_
    refine SG.cond_false rfl ?_
    refine SG.skip ?_
    refine SG.seq ?_
    refine SG.seq ?_
    refine SG.region ?_
    refine RL.val (Wanted.free rfl) (V.move rfl rfl) rfl ?_
    refine RL.val (Wanted.free rfl) (V.lenS rfl rfl us9 rfl) rfl ?_
    refine RL.cmp (Wanted.free rfl) (V.bin rfl rfl rfl B.gtr) rfl (fun h12 => ?_) (fun h12 => ?_)
    · skip
      refine RL.nil ?_
      refine SG.cond_true rfl ?_
      refine SG.seq ?_
      refine SG.region ?_
      refine RL.val (Wanted.free rfl) (V.buildS [] rfl bs26 (by exact trivial) rfl) rfl ?_
      refine RL.eff (Wanted.free rfl) (E.storeWhole rfl rfl rfl (by rfl) sz26 (by repeat (first | exact Pick.here | assumption | apply Pick.there)) (by first | (simp [Value.oneCell']; done) | (simp [setAt, Value.oneCell']; done)) (by rfl)) rfl ?_
      rintro _ _ rfl
      refine RL.val (Wanted.free rfl) (V.assign rfl rfl) rfl ?_
      refine RL.nil ?_
      refine SG.ent (RPeer.nil (p := zP) rfl rfl rfl) ?_
      refine SG.retE (Ret.r2 Try.func19 rfl (.agg rfl ag26 (by repeat (first | exact Pick.here | assumption | apply Pick.there)) rfl rfl) (.tmp rfl)) ?_ ⟨_, by rw [propV, if_neg (by omega), if_pos (by omega)], by rw [propV, if_neg (by omega), if_pos (by omega)]⟩
      repeat (first | exact Ent.refl _ | (apply Ent.cons; (· repeat (first | exact Pick.here | (refine Pick.sl ?_; (· repeat (first | exact List.Mem.head _ | assumption | apply List.Mem.tail))) | apply Pick.there))) | (refine Ent.trans (Ent.drop _ _) ?_))
    · skip
      refine RL.nil ?_
      refine SG.cond_false rfl ?_
      refine SG.skip ?_
      refine SG.seq ?_
      have hr2 := hr (by omega)
      refine SG.drawN 11 10 (Blk b2 26 (pv p (.slice ka p.log.length kc) (.slice wa wn wc) (.slice xa xn xc)) :: Sl RSlot ka p.log.length kc p.log :: Sl RB wa wn wc p.votes :: Sl RI xa xn xc p.mtch :: Blk b4 26 [.int .i64 0, .int .i64 0, .int .i64 0, .int .i64 0, .int .i64 0, .int .i64 0, .slice none 0 0, .slice none 0 0, .slice none 0 0] :: L) wide rfl rfl (by repeat (first | exact Ent.refl _ | (apply Ent.cons; (· repeat (first | exact Pick.here | (refine Pick.sl ?_; (· repeat (first | exact List.Mem.head _ | assumption | apply List.Mem.tail))) | apply Pick.there))) | (refine Ent.trans (Ent.drop _ _) ?_))) ?_
      refine RH.val 0 rfl (by kernel_rfl) (by kernel_rfl) (by kernel_rfl) (by kernel_rfl) (Wanted.free rfl) (V.fieldAddr rfl rfl fo26_6) rfl ?_
      refine RH.val 1 rfl (by kernel_rfl) (by kernel_rfl) (by kernel_rfl) (by kernel_rfl) (Wanted.free rfl) (V.load rfl on23 rfl (by repeat (first | exact Pick.here | assumption | apply Pick.there)) rfl) rfl ?_
      refine RH.val 3 rfl (by kernel_rfl) (by kernel_rfl) (by kernel_rfl) (by kernel_rfl) (Wanted.free rfl) (V.fieldAddr rfl rfl fo26_2) rfl ?_
      refine RH.val 4 rfl (by kernel_rfl) (by kernel_rfl) (by kernel_rfl) (by kernel_rfl) (Wanted.free rfl) (V.load rfl on3 rfl (by repeat (first | exact Pick.here | assumption | apply Pick.there)) rfl) rfl ?_
      refine RH.val 5 rfl (by kernel_rfl) (by kernel_rfl) (by kernel_rfl) (by kernel_rfl) (Wanted.free rfl) (V.move rfl rfl) rfl ?_
      refine RH.val 6 rfl (by kernel_rfl) (by kernel_rfl) (by kernel_rfl) (by kernel_rfl) (Wanted.free rfl) (V.buildS [(0, _), (1, _)] rfl bs53 (by exact ⟨rfl, ⟨_, rfl, rfl⟩, ⟨rfl, ⟨_, rfl, rfl⟩, trivial⟩⟩) rfl) rfl ?_
      refine RH.two (i := 2) (j := 7) (by kernel_rfl) ?_ ?_
      · skip
        refine RHone.eff rfl (Wanted.free rfl) (E.call rfl go65 rfl (rcopied_ok (l := p.log) (by repeat (first | exact List.Mem.head _ | assumption | apply List.Mem.tail)) (by omega))) rfl ?_
        rintro _ _ ⟨a16, c16, rfl, rfl⟩
        refine ⟨.inr (by repeat (first | exact Ent.refl _ | (apply Ent.cons; (· repeat (first | exact Pick.here | (refine Pick.sl ?_; (· repeat (first | exact List.Mem.head _ | assumption | apply List.Mem.tail))) | apply Pick.there))) | (refine Ent.trans (Ent.drop _ _) ?_))), ?_⟩
        refine RH.one (i := 7) (by kernel_rfl) ?_
        refine RHone.eff rfl (Wanted.free rfl) (E.lit1 [vI p.term, vS data] rfl el23.slice ze53 rfl (by decide) (by decide) rfl rfl rfl) rfl ?_
        rintro _ _ ⟨b21, rfl, rfl⟩
        refine ⟨.inr (by repeat (first | exact Ent.refl _ | (apply Ent.cons; (· repeat (first | exact Pick.here | (refine Pick.sl ?_; (· repeat (first | exact List.Mem.head _ | assumption | apply List.Mem.tail))) | apply Pick.there))) | (refine Ent.trans (Ent.drop _ _) ?_))), ?_⟩
        refine RH.one (i := 8) (by kernel_rfl) ?_
        refine RHone.eff rfl (Wanted.free rfl) (E.append (T := RSlot) rfl rfl rfl el23 el23.noInt rfl rfl (by repeat (first | exact Pick.here | assumption | apply Pick.there)) (Src.litDt (y := ⟨p.term, data⟩) (by repeat (first | exact Pick.here | assumption | apply Pick.there)) rfl trivial) (by first | omega | (simp; omega)) (by first | omega | (simp; omega))) rfl ?_
        intro _ _ hK24
        try rw [List.nil_append] at hK24
        try rw [Nat.zero_add] at hK24
        obtain ⟨a22, c22, rfl, rfl⟩ := hK24
        refine ⟨.inr (by repeat (first | exact Ent.refl _ | (apply Ent.cons; (· repeat (first | exact Pick.here | (refine Pick.sl ?_; (· repeat (first | exact List.Mem.head _ | assumption | apply List.Mem.tail))) | apply Pick.there))) | (refine Ent.trans (Ent.drop _ _) ?_))), ?_⟩
        refine RH.val 9 rfl (by kernel_rfl) (by kernel_rfl) (by kernel_rfl) (by kernel_rfl) (Wanted.free rfl) (V.fieldAddr rfl rfl fo26_6) rfl ?_
        refine RH.one (i := 10) (by kernel_rfl) ?_
        refine RHone.eff rfl (Wanted.free rfl) (E.store1 rfl rfl rfl rfl rfl sz23 (by repeat (first | exact Pick.here | assumption | apply Pick.there)) rfl) rfl ?_
        rintro _ _ rfl
        refine ⟨.inl (by kernel_rfl), ?_⟩
        refine RH.done (by kernel_rfl) ?_
        refine SG.seq ?_
        refine SG.publish (T := RSlot) (a := a22) (by repeat (first | exact Pick.here | assumption | apply Pick.there)) ?_
        refine SG.sl (T := RI) (a := xa) (by repeat (first | exact List.Mem.head _ | assumption | apply List.Mem.tail)) fun hxn _ _ => ?_
        subst hxn
        refine SG.region ?_
        refine RL.val (Wanted.free rfl) (V.fieldAddr rfl rfl fo26_8) rfl ?_
        refine RL.val (Wanted.free rfl) (V.load rfl on22 rfl (by repeat (first | exact Pick.here | assumption | apply Pick.there)) rfl) rfl ?_
        refine RL.val (Wanted.free rfl) (V.fieldAddr rfl rfl fo26_0) rfl ?_
        refine RL.val (Wanted.free rfl) (V.load rfl on3 rfl (by repeat (first | exact Pick.here | assumption | apply Pick.there)) rfl) rfl ?_
        refine RL.val (Wanted.free rfl) (V.fieldAddr rfl rfl fo26_6) rfl ?_
        refine RL.val (Wanted.free rfl) (V.load rfl on23 rfl (by repeat (first | exact Pick.here | assumption | apply Pick.there)) rfl) rfl ?_
        refine RL.val (Wanted.free rfl) (V.len rfl rfl el23.under rfl) rfl ?_
        refine RL.eff (Wanted.free rfl) (E.call rfl go66 rfl (matched_ok (l := p.mtch) (j := p.id) (x := ((p.log.length + 1 : Nat) : Int)) (by repeat (first | exact List.Mem.head _ | assumption | apply List.Mem.tail)) (by omega) (by omega) (by omega) (by unfold inInt; omega))) rfl ?_
        rintro _ _ ⟨a31, c31, rfl, rfl⟩
        refine RL.val (Wanted.free rfl) (V.fieldAddr rfl rfl fo26_8) rfl ?_
        refine RL.eff (Wanted.free rfl) (E.store1 rfl rfl rfl rfl rfl sz22 (by repeat (first | exact Pick.here | assumption | apply Pick.there)) rfl) rfl ?_
        rintro _ _ rfl
        refine RL.nil ?_
        refine SG.seq ?_
        refine SG.publish (T := RI) (a := a31) (by repeat (first | exact Pick.here | assumption | apply Pick.there)) ?_
        have hml : (p.mtch.set p.id.toNat ((p.log.length + 1 : Nat) : Int)) = (propQ p data).mtch := by show _ = p.mtch.set p.id.toNat ((p.log.length : Int) + 1); rfl
        rw [hml]
        refine SG.ent (RPeer.mk (p := propQ p data) (la := a22) (ln := p.log.length + 1) (lc := c22) (va := wa) (vn := wn) (vc := wc) (ma := a31) (mn := p.mtch.length) (mc := c31) (by repeat (first | exact List.Mem.head _ | assumption | apply List.Mem.tail)) (by repeat (first | exact List.Mem.head _ | assumption | apply List.Mem.tail)) (by repeat (first | exact List.Mem.head _ | assumption | apply List.Mem.tail))) ?_
        refine SG.region ?_
        refine RL.val (Wanted.free rfl) (V.loadAgg (us := pv (propQ p data) (.slice a22 (p.log.length + 1) c22) (.slice wa wn wc) (.slice a31 p.mtch.length c31)) rfl ag26 rfl (by repeat (first | exact Pick.here | assumption | apply Pick.there)) rfl rfl) rfl ?_
        refine RL.eff (Wanted.free rfl) (E.call rfl go67 rfl (rcount_ok (p := propQ p data) (by repeat (first | exact List.Mem.head _ | assumption | apply List.Mem.tail)) (by show (p.log ++ [_]).length ≤ _; simp; omega) (by show (p.mtch.set _ _).length ≤ _; rw [List.length_set]; omega) (by show p.nodes ≤ _; omega) hc0 (by show p.commit ≤ ((p.log ++ [_]).length : Int); simp; omega))) rfl ?_
        rintro _ _ ⟨u34, rfl, rfl⟩
        refine RL.openPeer (us := u34) (Pick.rd (T := RPeer) (by repeat (first | exact List.Mem.head _ | assumption | apply List.Mem.tail))) fun ja jn jc ga gn gc ha hn hc hus => ?_
        subst hus
        refine RL.eff (Wanted.free rfl) (E.storeWhole rfl rfl rfl (by rfl) sz26 (by repeat (first | exact Pick.here | assumption | apply Pick.there)) pv_one (by rfl)) rfl ?_
        rintro _ _ rfl
        refine RL.val (Wanted.free rfl) (V.assign rfl rfl) rfl ?_
        refine RL.nil ?_
        have hpv : propV p data = (propose p data, 0) := by rw [propV, if_neg (by omega), if_neg (by omega)]
        rw [hpv]
        refine SG.retE (Ret.r2 Try.func19 rfl (.agg rfl ag26 (by repeat (first | exact Pick.here | assumption | apply Pick.there)) rfl rfl) (.tmp rfl)) ?_ ⟨_, rfl, rfl⟩
        repeat (first | exact Ent.refl _ | (apply Ent.cons; (· repeat (first | exact Pick.here | (refine Pick.sl ?_; (· repeat (first | exact List.Mem.head _ | assumption | apply List.Mem.tail))) | apply Pick.there))) | (refine Ent.trans (Ent.drop _ _) ?_))
      · skip
        refine RHone.eff rfl (Wanted.free rfl) (E.lit1 [vI p.term, vS data] rfl el23.slice ze53 rfl (by decide) (by decide) rfl rfl rfl) rfl ?_
        rintro _ _ ⟨b21, rfl, rfl⟩
        refine ⟨.inr (by repeat (first | exact Ent.refl _ | (apply Ent.cons; (· repeat (first | exact Pick.here | (refine Pick.sl ?_; (· repeat (first | exact List.Mem.head _ | assumption | apply List.Mem.tail))) | apply Pick.there))) | (refine Ent.trans (Ent.drop _ _) ?_))), ?_⟩
        refine RH.one (i := 2) (by kernel_rfl) ?_
        refine RHone.eff rfl (Wanted.free rfl) (E.call rfl go65 rfl (rcopied_ok (l := p.log) (by repeat (first | exact List.Mem.head _ | assumption | apply List.Mem.tail)) (by omega))) rfl ?_
        rintro _ _ ⟨a16, c16, rfl, rfl⟩
        refine ⟨.inr (by repeat (first | exact Ent.refl _ | (apply Ent.cons; (· repeat (first | exact Pick.here | (refine Pick.sl ?_; (· repeat (first | exact List.Mem.head _ | assumption | apply List.Mem.tail))) | apply Pick.there))) | (refine Ent.trans (Ent.drop _ _) ?_))), ?_⟩
        refine RH.one (i := 8) (by kernel_rfl) ?_
        refine RHone.eff rfl (Wanted.free rfl) (E.append (T := RSlot) rfl rfl rfl el23 el23.noInt rfl rfl (by repeat (first | exact Pick.here | assumption | apply Pick.there)) (Src.litDt (y := ⟨p.term, data⟩) (by repeat (first | exact Pick.here | assumption | apply Pick.there)) rfl trivial) (by first | omega | (simp; omega)) (by first | omega | (simp; omega))) rfl ?_
        intro _ _ hK43
        try rw [List.nil_append] at hK43
        try rw [Nat.zero_add] at hK43
        obtain ⟨a22, c22, rfl, rfl⟩ := hK43
        refine ⟨.inr (by repeat (first | exact Ent.refl _ | (apply Ent.cons; (· repeat (first | exact Pick.here | (refine Pick.sl ?_; (· repeat (first | exact List.Mem.head _ | assumption | apply List.Mem.tail))) | apply Pick.there))) | (refine Ent.trans (Ent.drop _ _) ?_))), ?_⟩
        refine RH.val 9 rfl (by kernel_rfl) (by kernel_rfl) (by kernel_rfl) (by kernel_rfl) (Wanted.free rfl) (V.fieldAddr rfl rfl fo26_6) rfl ?_
        refine RH.one (i := 10) (by kernel_rfl) ?_
        refine RHone.eff rfl (Wanted.free rfl) (E.store1 rfl rfl rfl rfl rfl sz23 (by repeat (first | exact Pick.here | assumption | apply Pick.there)) rfl) rfl ?_
        rintro _ _ rfl
        refine ⟨.inl (by kernel_rfl), ?_⟩
        refine RH.done (by kernel_rfl) ?_
        refine SG.seq ?_
        refine SG.publish (T := RSlot) (a := a22) (by repeat (first | exact Pick.here | assumption | apply Pick.there)) ?_
        refine SG.sl (T := RI) (a := xa) (by repeat (first | exact List.Mem.head _ | assumption | apply List.Mem.tail)) fun hxn _ _ => ?_
        subst hxn
        refine SG.region ?_
        refine RL.val (Wanted.free rfl) (V.fieldAddr rfl rfl fo26_8) rfl ?_
        refine RL.val (Wanted.free rfl) (V.load rfl on22 rfl (by repeat (first | exact Pick.here | assumption | apply Pick.there)) rfl) rfl ?_
        refine RL.val (Wanted.free rfl) (V.fieldAddr rfl rfl fo26_0) rfl ?_
        refine RL.val (Wanted.free rfl) (V.load rfl on3 rfl (by repeat (first | exact Pick.here | assumption | apply Pick.there)) rfl) rfl ?_
        refine RL.val (Wanted.free rfl) (V.fieldAddr rfl rfl fo26_6) rfl ?_
        refine RL.val (Wanted.free rfl) (V.load rfl on23 rfl (by repeat (first | exact Pick.here | assumption | apply Pick.there)) rfl) rfl ?_
        refine RL.val (Wanted.free rfl) (V.len rfl rfl el23.under rfl) rfl ?_
        refine RL.eff (Wanted.free rfl) (E.call rfl go66 rfl (matched_ok (l := p.mtch) (j := p.id) (x := ((p.log.length + 1 : Nat) : Int)) (by repeat (first | exact List.Mem.head _ | assumption | apply List.Mem.tail)) (by omega) (by omega) (by omega) (by unfold inInt; omega))) rfl ?_
        rintro _ _ ⟨a31, c31, rfl, rfl⟩
        refine RL.val (Wanted.free rfl) (V.fieldAddr rfl rfl fo26_8) rfl ?_
        refine RL.eff (Wanted.free rfl) (E.store1 rfl rfl rfl rfl rfl sz22 (by repeat (first | exact Pick.here | assumption | apply Pick.there)) rfl) rfl ?_
        rintro _ _ rfl
        refine RL.nil ?_
        refine SG.seq ?_
        refine SG.publish (T := RI) (a := a31) (by repeat (first | exact Pick.here | assumption | apply Pick.there)) ?_
        have hml : (p.mtch.set p.id.toNat ((p.log.length + 1 : Nat) : Int)) = (propQ p data).mtch := by show _ = p.mtch.set p.id.toNat ((p.log.length : Int) + 1); rfl
        rw [hml]
        refine SG.ent (RPeer.mk (p := propQ p data) (la := a22) (ln := p.log.length + 1) (lc := c22) (va := wa) (vn := wn) (vc := wc) (ma := a31) (mn := p.mtch.length) (mc := c31) (by repeat (first | exact List.Mem.head _ | assumption | apply List.Mem.tail)) (by repeat (first | exact List.Mem.head _ | assumption | apply List.Mem.tail)) (by repeat (first | exact List.Mem.head _ | assumption | apply List.Mem.tail))) ?_
        refine SG.region ?_
        refine RL.val (Wanted.free rfl) (V.loadAgg (us := pv (propQ p data) (.slice a22 (p.log.length + 1) c22) (.slice wa wn wc) (.slice a31 p.mtch.length c31)) rfl ag26 rfl (by repeat (first | exact Pick.here | assumption | apply Pick.there)) rfl rfl) rfl ?_
        refine RL.eff (Wanted.free rfl) (E.call rfl go67 rfl (rcount_ok (p := propQ p data) (by repeat (first | exact List.Mem.head _ | assumption | apply List.Mem.tail)) (by show (p.log ++ [_]).length ≤ _; simp; omega) (by show (p.mtch.set _ _).length ≤ _; rw [List.length_set]; omega) (by show p.nodes ≤ _; omega) hc0 (by show p.commit ≤ ((p.log ++ [_]).length : Int); simp; omega))) rfl ?_
        rintro _ _ ⟨u34, rfl, rfl⟩
        refine RL.openPeer (us := u34) (Pick.rd (T := RPeer) (by repeat (first | exact List.Mem.head _ | assumption | apply List.Mem.tail))) fun ja jn jc ga gn gc ha hn hc hus => ?_
        subst hus
        refine RL.eff (Wanted.free rfl) (E.storeWhole rfl rfl rfl (by rfl) sz26 (by repeat (first | exact Pick.here | assumption | apply Pick.there)) pv_one (by rfl)) rfl ?_
        rintro _ _ rfl
        refine RL.val (Wanted.free rfl) (V.assign rfl rfl) rfl ?_
        refine RL.nil ?_
        have hpv : propV p data = (propose p data, 0) := by rw [propV, if_neg (by omega), if_neg (by omega)]
        rw [hpv]
        refine SG.retE (Ret.r2 Try.func19 rfl (.agg rfl ag26 (by repeat (first | exact Pick.here | assumption | apply Pick.there)) rfl rfl) (.tmp rfl)) ?_ ⟨_, rfl, rfl⟩
        repeat (first | exact Ent.refl _ | (apply Ent.cons; (· repeat (first | exact Pick.here | (refine Pick.sl ?_; (· repeat (first | exact List.Mem.head _ | assumption | apply List.Mem.tail))) | apply Pick.there))) | (refine Ent.trans (Ent.drop _ _) ?_))

set_option maxRecDepth 100000 in
set_option maxHeartbeats 1000000 in
theorem rBeat_ok {κ : World} {L : List Assn} {us : List Value} {p : Peer} (hm : Rd RPeer us p ∈ L) (hb1 : p.log.length ≤ 900000) (hb2 : p.votes.length ≤ 1000) (hb3 : p.mtch.length ≤ 1000) (hn1 : 1 ≤ p.nodes) (hn5 : p.nodes ≤ 5) (hi0 : 0 ≤ p.id) (hi1 : p.id < p.nodes) (ht0 : 0 ≤ p.term) (ht1 : p.term ≤ 1000000) (hr : p.role = 2 → p.mtch.length = p.nodes.toNat) (hmm : ∀ m ∈ p.mtch, 0 ≤ m ∧ m ≤ (p.log.length : Int)) :
    Ctr Try.prog 22 #[.agg us.toArray] κ L (fun v M => ∃ a c, v = .slice a (beat p).length c ∧ M = Sl RMsg a (beat p).length c (beat p) :: L) := by
  refine Ctr.enter (vs := [.agg us.toArray]) (m := 48) Try.func22 rfl rfl rfl ?_
  refine SG.openPeer (Pick.rd hm) fun ka kn kc wa wn wc xa xn xc hus => ?_
  subst hus
  refine SG.sl (T := RSlot) (a := ka) (by repeat (first | exact List.Mem.head _ | assumption | apply List.Mem.tail)) fun hkn _ _ => ?_
  subst hkn
  refine SG.ent (Buf.nil (T := RMsg) (e := 50)) ?_
  refine SG.seq ?_
  refine SG.region ?_
  refine RL.eff (Wanted.free rfl) (E.box _ rfl rfl rfl) rfl ?_
  rintro _ _ ⟨b1, rfl, rfl⟩
  refine RL.val (Wanted.free rfl) (V.assign rfl rfl) rfl ?_
  refine RL.nil ?_
  refine SG.seq ?_
  refine SG.region ?_
  refine RL.val (Wanted.free rfl) (V.assign rfl rfl) rfl ?_
  refine RL.nil ?_
  refine SG.seq ?_
  refine SG.seq ?_
  refine SG.region ?_
  refine RL.val (Wanted.free rfl) (V.assign rfl rfl) rfl ?_
  refine RL.nil ?_
  refine SG.block ?_
  refine SG.weaken (SG.loop2 (fun m al M => ∃ (i : Nat) (a3 : Option Addr) (c3 : Nat), i ≤ p.nodes.toNat ∧ (p.role = 2 ∨ i = 0) ∧ m = p.nodes.toNat - i ∧ al = [(1, ptr b1 0), (3, .slice a3 (othersN p (beatM p) i).length c3), (4, vI i)] ∧ M = Buf RMsg 50 a3 (othersN p (beatM p) i).length c3 (othersN p (beatM p) i) :: Blk b1 26 (pv p (.slice ka p.log.length kc) (.slice wa wn wc) (.slice xa xn xc)) :: Sl RSlot ka p.log.length kc p.log :: Sl RI xa xn xc p.mtch :: L) (m0 := _) ⟨0, none, 0, by omega, .inr rfl, rfl, rfl, rfl⟩ ?_) ?_ ?_
  rotate_left
  · repeat (first | exact EnvLe.nil _ | refine EnvLe.cons rfl ?_)
  · repeat (first | exact Ent.refl _ | (apply Ent.cons; (· repeat (first | exact Pick.here | (refine Pick.sl ?_; (· repeat (first | exact List.Mem.head _ | assumption | apply List.Mem.tail))) | apply Pick.there))) | (refine Ent.trans (Ent.drop _ _) ?_))
  rintro _ _ _ ⟨i, a3, c3, hi, hro, rfl, rfl, rfl⟩ ih0
  refine SG.seq ?_
  refine SG.seq ?_
  refine SG.region ?_
  refine RL.val (Wanted.free rfl) (V.move rfl rfl) rfl ?_
  refine RL.val (Wanted.free rfl) (V.fieldAddr rfl rfl fo26_1) rfl ?_
  refine RL.val (Wanted.free rfl) (V.load rfl on3 rfl (by repeat (first | exact Pick.here | assumption | apply Pick.there)) rfl) rfl ?_
  refine RL.cmp (Wanted.free rfl) (V.bin rfl rfl rfl B.lss) rfl (fun h8 => ?_) (fun h8 => ?_)
  · skip
    refine RL.val (Wanted.free rfl) (V.move rfl rfl) rfl ?_
    refine RL.val (Wanted.yes rfl rfl rfl rfl) (V.fieldAddr rfl rfl fo26_4) rfl ?_
    refine RL.val (Wanted.yes rfl rfl rfl rfl) (V.load rfl on3 rfl (by repeat (first | exact Pick.here | assumption | apply Pick.there)) rfl) rfl ?_
    refine RL.cmp (Wanted.yes rfl rfl rfl rfl) (V.bin rfl rfl rfl B.eql) rfl (fun h12 => ?_) (fun h12 => ?_)
    · skip
      refine RL.val (Wanted.free rfl) (V.pick_true rfl rfl rfl) rfl ?_
      refine RL.nil ?_
      refine SG.cond_true rfl ?_
      refine SG.skip ?_
      refine SG.seq ?_
      refine SG.block ?_
      refine SG.seq ?_
      refine SG.region ?_
      refine RL.val (Wanted.free rfl) (V.move rfl rfl) rfl ?_
      refine RL.val (Wanted.free rfl) (V.fieldAddr rfl rfl fo26_0) rfl ?_
      refine RL.val (Wanted.free rfl) (V.load rfl on3 rfl (by repeat (first | exact Pick.here | assumption | apply Pick.there)) rfl) rfl ?_
      refine RL.cmp (Wanted.free rfl) (V.bin rfl rfl rfl B.neq) rfl (fun h16 => ?_) (fun h16 => ?_)
      · skip
        refine RL.nil ?_
        refine SG.cond_true rfl ?_
        refine SG.seq ?_
        have hr2 := hr (by omega)
        have hil : i < p.mtch.length := by omega
        have hol := othersN_len p (beatM p) i
        obtain ⟨hm0, hm1⟩ := hmm (p.mtch[i]'hil) (List.getElem_mem _)
        obtain ⟨k, hk⟩ := Int.eq_ofNat_of_zero_le hm0
        refine SG.region ?_
        refine RL.val (Wanted.free rfl) (V.fieldAddr rfl rfl fo26_8) rfl ?_
        refine RL.val (Wanted.free rfl) (V.load rfl on22 rfl (by repeat (first | exact Pick.here | assumption | apply Pick.there)) rfl) rfl ?_
        refine RL.val (Wanted.free rfl) (V.move rfl rfl) rfl ?_
        refine RL.val (Wanted.free rfl) (V.indexSl (T := RI) (a := xa) (l := p.mtch) (j := i) rfl el22.slice rfl rfl (by repeat (first | exact List.Mem.head _ | assumption | apply List.Mem.tail)) rfl hil) rfl ?_
        refine RL.val (Wanted.free rfl) (V.loadSc (l := p.mtch) (j := i) rfl on3 rfl (show Sl RI xa xn xc p.mtch ∈ _ from (by repeat (first | exact List.Mem.head _ | assumption | apply List.Mem.tail))) (List.getElem?_eq_getElem hil)) rfl ?_
        rw [hk]
        refine RL.val (Wanted.free rfl) (V.assign rfl rfl) rfl ?_
        refine RL.nil ?_
        refine SG.cut (lo := k) (hi := p.log.length) (l' := p.log.drop k) (a := ka) (T := RSlot) (by repeat (first | exact List.Mem.head _ | assumption | apply List.Mem.tail)) (by omega) (by omega) (List.take_of_length_le (by rw [List.length_drop]; omega)) ?_
        refine SG.drawN 22 22 (Blk b1 26 (pv p (.slice ka p.log.length kc) (.slice wa wn wc) (.slice xa xn xc)) :: Sl RSlot ka p.log.length kc p.log :: Sl RI xa xn xc p.mtch :: Sl RSlot (cutA ka k 2 kc) (p.log.length - k) (kc - k) (p.log.drop k) :: L) wide rfl rfl (by repeat (first | exact Ent.refl _ | (apply Ent.cons; (· repeat (first | exact Pick.here | (refine Pick.sl ?_; (· repeat (first | exact List.Mem.head _ | assumption | apply List.Mem.tail))) | apply Pick.there))) | (refine Ent.trans (Ent.drop _ _) ?_))) ?_
        refine RH.val 0 rfl (by kernel_rfl) (by kernel_rfl) (by kernel_rfl) (by kernel_rfl) (Wanted.free rfl) (V.move rfl rfl) rfl ?_
        refine RH.val 1 rfl (by kernel_rfl) (by kernel_rfl) (by kernel_rfl) (by kernel_rfl) (Wanted.free rfl) (V.fieldAddr rfl rfl fo26_0) rfl ?_
        refine RH.val 2 rfl (by kernel_rfl) (by kernel_rfl) (by kernel_rfl) (by kernel_rfl) (Wanted.free rfl) (V.load rfl on3 rfl (by repeat (first | exact Pick.here | assumption | apply Pick.there)) rfl) rfl ?_
        refine RH.val 3 rfl (by kernel_rfl) (by kernel_rfl) (by kernel_rfl) (by kernel_rfl) (Wanted.free rfl) (V.move rfl rfl) rfl ?_
        refine RH.val 4 rfl (by kernel_rfl) (by kernel_rfl) (by kernel_rfl) (by kernel_rfl) (Wanted.free rfl) (V.fieldAddr rfl rfl fo26_2) rfl ?_
        refine RH.val 5 rfl (by kernel_rfl) (by kernel_rfl) (by kernel_rfl) (by kernel_rfl) (Wanted.free rfl) (V.load rfl on3 rfl (by repeat (first | exact Pick.here | assumption | apply Pick.there)) rfl) rfl ?_
        refine RH.val 6 rfl (by kernel_rfl) (by kernel_rfl) (by kernel_rfl) (by kernel_rfl) (Wanted.free rfl) (V.move rfl rfl) rfl ?_
        refine RH.val 7 rfl (by kernel_rfl) (by kernel_rfl) (by kernel_rfl) (by kernel_rfl) (Wanted.free rfl) (V.fieldAddr rfl rfl fo26_6) rfl ?_
        refine RH.val 8 rfl (by kernel_rfl) (by kernel_rfl) (by kernel_rfl) (by kernel_rfl) (Wanted.free rfl) (V.load rfl on23 rfl (by repeat (first | exact Pick.here | assumption | apply Pick.there)) rfl) rfl ?_
        refine RH.val 9 rfl (by kernel_rfl) (by kernel_rfl) (by kernel_rfl) (by kernel_rfl) (Wanted.free rfl) (V.move rfl rfl) rfl ?_
        refine RH.val 11 rfl (by kernel_rfl) (by kernel_rfl) (by kernel_rfl) (by kernel_rfl) (Wanted.free rfl) (V.fieldAddr rfl rfl fo26_5) rfl ?_
        refine RH.val 12 rfl (by kernel_rfl) (by kernel_rfl) (by kernel_rfl) (by kernel_rfl) (Wanted.free rfl) (V.load rfl on3 rfl (by repeat (first | exact Pick.here | assumption | apply Pick.there)) rfl) rfl ?_
        refine RH.val 13 rfl (by kernel_rfl) (by kernel_rfl) (by kernel_rfl) (by kernel_rfl) (Wanted.free rfl) (V.fieldAddr rfl rfl fo26_6) rfl ?_
        refine RH.val 14 rfl (by kernel_rfl) (by kernel_rfl) (by kernel_rfl) (by kernel_rfl) (Wanted.free rfl) (V.load rfl on23 rfl (by repeat (first | exact Pick.here | assumption | apply Pick.there)) rfl) rfl ?_
        refine RH.val 15 rfl (by kernel_rfl) (by kernel_rfl) (by kernel_rfl) (by kernel_rfl) (Wanted.free rfl) (V.move rfl rfl) rfl ?_
        refine RH.val 16 rfl (by kernel_rfl) (by kernel_rfl) (by kernel_rfl) (by kernel_rfl) (Wanted.free rfl) (V.slice (T := RSlot) (lo := k) (hi := p.log.length) rfl el23.slice rfl ⟨_, _, rfl, (by first | rfl | omega)⟩ rfl (by omega) (by omega)) rfl ?_
        refine RH.one (i := 10) (by kernel_rfl) ?_
        refine RHone.eff rfl (Wanted.free rfl) (E.call rfl go62 rfl (rterm_ok (l := p.log) (i := (k : Int)) (by repeat (first | exact List.Mem.head _ | assumption | apply List.Mem.tail)) (by omega) (by omega))) rfl ?_
        rintro _ _ ⟨rfl, rfl⟩
        refine ⟨.inr (by repeat (first | exact Ent.refl _ | (apply Ent.cons; (· repeat (first | exact Pick.here | (refine Pick.sl ?_; (· repeat (first | exact List.Mem.head _ | assumption | apply List.Mem.tail))) | apply Pick.there))) | (refine Ent.trans (Ent.drop _ _) ?_))), ?_⟩
        refine RH.one (i := 17) (by kernel_rfl) ?_
        refine RHone.eff rfl (Wanted.free rfl) (E.call rfl go65 rfl (rcopied_ok (l := p.log.drop k) (by repeat (first | exact List.Mem.head _ | assumption | apply List.Mem.tail)) (by rw [List.length_drop]; omega))) rfl ?_
        rintro _ _ ⟨a43, c43, rfl, rfl⟩
        refine ⟨.inr (by repeat (first | exact Ent.refl _ | (apply Ent.cons; (· repeat (first | exact Pick.here | (refine Pick.sl ?_; (· repeat (first | exact List.Mem.head _ | assumption | apply List.Mem.tail))) | apply Pick.there))) | (refine Ent.trans (Ent.drop _ _) ?_))), ?_⟩
        refine RH.publish (T := RSlot) (a := a43) Pick.here ?_
        refine RH.ent (RMsg.mk (m := ⟨3, p.id, i, p.term, k, termAt p.log k, p.commit, p.log.drop k, false⟩) (a := a43) (by repeat (first | exact List.Mem.head _ | assumption | apply List.Mem.tail))) ?_
        refine RH.val 18 rfl (by kernel_rfl) (by kernel_rfl) (by kernel_rfl) (by kernel_rfl) (Wanted.free rfl) (V.buildS [(0, _), (1, _), (2, _), (3, _), (4, _), (5, _), (6, _), (7, _)] rfl bs50 (by exact ⟨rfl, ⟨_, rfl, rfl⟩, ⟨rfl, ⟨_, rfl, rfl⟩, ⟨rfl, ⟨_, rfl, rfl⟩, ⟨rfl, ⟨_, rfl, rfl⟩, ⟨rfl, ⟨_, rfl, rfl⟩, ⟨rfl, ⟨_, rfl, rfl⟩, ⟨rfl, ⟨_, rfl, rfl⟩, ⟨rfl, ⟨_, rfl, rfl⟩, trivial⟩⟩⟩⟩⟩⟩⟩⟩) rfl) rfl ?_
        refine RH.one (i := 19) (by kernel_rfl) ?_
        refine RHone.eff rfl (Wanted.free rfl) (E.lit1 (mv ⟨3, p.id, i, p.term, k, termAt p.log k, p.commit, p.log.drop k, false⟩ (.slice a43 (p.log.drop k).length c43)) rfl el35.slice ze50 rfl (by decide) (by decide) rfl rfl rfl) rfl ?_
        rintro _ _ ⟨b45, rfl, rfl⟩
        refine ⟨.inr (by repeat (first | exact Ent.refl _ | (apply Ent.cons; (· repeat (first | exact Pick.here | (refine Pick.sl ?_; (· repeat (first | exact List.Mem.head _ | assumption | apply List.Mem.tail))) | apply Pick.there))) | (refine Ent.trans (Ent.drop _ _) ?_))), ?_⟩
        refine RH.one (i := 20) (by kernel_rfl) ?_
        refine RHone.eff rfl (Wanted.free rfl) (E.append (T := RMsg) rfl rfl rfl el35 el35.noInt rfl rfl (by repeat (first | exact Pick.here | assumption | apply Pick.there)) (Src.litRd (T := RMsg) (y := ⟨3, p.id, i, p.term, k, termAt p.log k, p.commit, p.log.drop k, false⟩) (by repeat (first | exact Pick.here | assumption | apply Pick.there)) (by repeat (first | exact List.Mem.head _ | assumption | apply List.Mem.tail))) (by first | omega | (simp; omega)) (by first | omega | (simp; omega))) rfl ?_
        intro _ _ hK43
        try rw [List.nil_append] at hK43
        try rw [Nat.zero_add] at hK43
        obtain ⟨a46, c46, rfl, rfl⟩ := hK43
        refine ⟨.inr (by repeat (first | exact Ent.refl _ | (apply Ent.cons; (· repeat (first | exact Pick.here | (refine Pick.sl ?_; (· repeat (first | exact List.Mem.head _ | assumption | apply List.Mem.tail))) | apply Pick.there))) | (refine Ent.trans (Ent.drop _ _) ?_))), ?_⟩
        refine RH.val 21 rfl (by kernel_rfl) (by kernel_rfl) (by kernel_rfl) (by kernel_rfl) (Wanted.free rfl) (V.assign rfl rfl) rfl ?_
        refine RH.done (by kernel_rfl) ?_
        refine SG.inBlock ?_
        refine SG.region ?_
        refine RL.val (Wanted.free rfl) (V.move rfl rfl) rfl ?_
        refine RL.val (Wanted.free rfl) (V.bin rfl rfl rfl (B.addI (by omega) (by omega))) rfl ?_
        refine RL.val (Wanted.free rfl) (V.assign rfl rfl) rfl ?_
        refine RL.nil ?_
        have hoy := others_yes (p := p) (f := beatM p) (i := i) (by omega)
        rw [beatM_eq (by omega) hk] at hoy
        refine SG.weaken (ih0 _ _ _ ?_ ⟨i + 1, a46, c46, by omega, .inl (by omega), rfl, rfl, rfl⟩) ?_ ?_
        · omega
        · rw [hoy, List.length_append, List.length_singleton]
          repeat (first | exact EnvLe.nil _ | refine EnvLe.cons rfl ?_)
        · rw [hoy, List.length_append, List.length_singleton]
          repeat (first | exact Ent.refl _ | (apply Ent.cons; (· repeat (first | exact Pick.here | (refine Pick.sl ?_; (· repeat (first | exact List.Mem.head _ | assumption | apply List.Mem.tail))) | apply Pick.there))) | (refine Ent.trans (Ent.drop _ _) ?_))
      · skip
        refine RL.nil ?_
        refine SG.cond_false rfl ?_
        refine SG.skip ?_
        refine SG.inBlock ?_
        refine SG.region ?_
        refine RL.val (Wanted.free rfl) (V.move rfl rfl) rfl ?_
        refine RL.val (Wanted.free rfl) (V.bin rfl rfl rfl (B.addI (by omega) (by omega))) rfl ?_
        refine RL.val (Wanted.free rfl) (V.assign rfl rfl) rfl ?_
        refine RL.nil ?_
        have hoy := others_no (p := p) (f := beatM p) (i := i) (by omega)
        refine SG.weaken (ih0 _ _ _ ?_ ⟨i + 1, a3, c3, by omega, .inl (by omega), rfl, rfl, rfl⟩) ?_ ?_
        · omega
        · rw [hoy]
          repeat (first | exact EnvLe.nil _ | refine EnvLe.cons rfl ?_)
        · rw [hoy]
          repeat (first | exact Ent.refl _ | (apply Ent.cons; (· repeat (first | exact Pick.here | (refine Pick.sl ?_; (· repeat (first | exact List.Mem.head _ | assumption | apply List.Mem.tail))) | apply Pick.there))) | (refine Ent.trans (Ent.drop _ _) ?_))
    · skip
      refine RL.val (Wanted.free rfl) (V.pick_true rfl rfl rfl) rfl ?_
      refine RL.nil ?_
      refine SG.cond_false rfl ?_
      refine SG.exit rfl ?_
      refine SG.seq ?_
      obtain rfl : i = 0 := by omega
      rw [show othersN p (beatM p) 0 = beat p from (if_neg (by omega)).symm]
      refine SG.publish (T := RMsg) (a := a3) (by repeat (first | exact Pick.here | assumption | apply Pick.there)) ?_
      refine SG.region ?_
      refine RL.val (Wanted.free rfl) (V.move rfl rfl) rfl ?_
      refine RL.val (Wanted.free rfl) (V.assign rfl rfl) rfl ?_
      refine RL.nil ?_
      refine SG.retE (Ret.r1 Try.func22 rfl (.tmp rfl)) ?_ ⟨_, _, rfl, rfl⟩
      repeat (first | exact Ent.refl _ | (apply Ent.cons; (· repeat (first | exact Pick.here | (refine Pick.sl ?_; (· repeat (first | exact List.Mem.head _ | assumption | apply List.Mem.tail))) | apply Pick.there))) | (refine Ent.trans (Ent.drop _ _) ?_))
  · skip
    refine RL.val (Wanted.free rfl) (V.move rfl rfl) rfl ?_
    refine RL.skip (Wanted.no rfl rfl rfl rfl rfl) rfl ?_
    refine RL.skip (Wanted.no rfl rfl rfl rfl rfl) rfl ?_
    refine RL.skip (Wanted.no rfl rfl rfl rfl rfl) rfl ?_
    refine RL.val (Wanted.free rfl) (V.pick_false rfl rfl rfl) rfl ?_
    refine RL.nil ?_
    refine SG.cond_false rfl ?_
    refine SG.exit rfl ?_
    refine SG.seq ?_
    obtain rfl : i = p.nodes.toNat := by omega
    rw [beat_all (by omega)]
    refine SG.publish (T := RMsg) (a := a3) (by repeat (first | exact Pick.here | assumption | apply Pick.there)) ?_
    refine SG.region ?_
    refine RL.val (Wanted.free rfl) (V.move rfl rfl) rfl ?_
    refine RL.val (Wanted.free rfl) (V.assign rfl rfl) rfl ?_
    refine RL.nil ?_
    refine SG.retE (Ret.r1 Try.func22 rfl (.tmp rfl)) ?_ ⟨_, _, rfl, rfl⟩
    repeat (first | exact Ent.refl _ | (apply Ent.cons; (· repeat (first | exact Pick.here | (refine Pick.sl ?_; (· repeat (first | exact List.Mem.head _ | assumption | apply List.Mem.tail))) | apply Pick.there))) | (refine Ent.trans (Ent.drop _ _) ?_))

end Go.Proofs.Ytilcnglcflohoaa
