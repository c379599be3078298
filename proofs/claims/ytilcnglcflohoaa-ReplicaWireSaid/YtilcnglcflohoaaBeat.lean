/- Beat. -/
import Derived.Test.YtilcnglcflohoaaProp
namespace Go.Proofs.Ytilcnglcflohoaa
open Go.Wk Go.Rp

theorem beat_all {p : Peer} (hr : p.role = 2) : othersN p (beatM p) p.nodes.toNat = beat p := by rw [beat, if_pos hr]; rfl
theorem beatM_eq {p : Peer} {i : Nat} (h : i < p.mtch.length) {k : Nat} (hk : p.mtch[i] = (k : Int)) : beatM p i = ⟨3, p.id, i, p.term, k, termAt p.log k, p.commit, p.log.drop k, false⟩ := by
  have e : p.mtch.getD i 0 = (k : Int) := by rw [List.getD_eq_getElem?_getD, List.getElem?_eq_getElem h]; exact hk
  unfold beatM
  rw [Int.toNat_natCast, e, Int.toNat_natCast]
set_option maxRecDepth 100000 in
set_option maxHeartbeats 1000000 in
theorem pBeat_ok {κ : World} {L : List Assn} {us : List Value} {p : Peer} (hm : Rd RPeer us p ∈ L) (hb1 : p.log.length ≤ 900000) (hb2 : p.votes.length ≤ 1000) (hb3 : p.mtch.length ≤ 1000) (hn1 : 1 ≤ p.nodes) (hn5 : p.nodes ≤ 5) (hi0 : 0 ≤ p.id) (hi1 : p.id < p.nodes) (_ : 0 ≤ p.term) (_ : p.term ≤ 1000000) (hr : p.role = 2 → p.mtch.length = p.nodes.toNat) (hmm : ∀ m ∈ p.mtch, 0 ≤ m ∧ m ≤ (p.log.length : Int)) :
    Ctr Try.prog 21 #[.agg us.toArray] κ L (fun v M => ∃ a c, v = .slice a (beat p).length c ∧ M = Sl RMsg a (beat p).length c (beat p) :: L) := by
 refine Ctr.enter (vs := [.agg us.toArray]) (m := 55) Try.func21 rfl rfl rfl ?_
 refine SG.openPeer (Pick.rd hm) fun ka kn kc wa wn wc xa xn xc hus => ?_
 subst hus
 refine SG.seq ?_
 refine SG.region ?_
 refine RL.eff (Wanted.free rfl) (E.box _ rfl rfl rfl) rfl ?_
 rintro _ _ ⟨b1, rfl, rfl⟩
 refine RL.val (Wanted.free rfl) (V.assign rfl rfl) rfl ?_
 refine RL.nil ?_
 refine SG.seq ?_
 refine SG.seq ?_
 refine SG.region ?_
 refine RL.val (Wanted.free rfl) (V.fieldAddr rfl rfl fo26_4) rfl ?_
 refine RL.val (Wanted.free rfl) (V.load rfl on3 rfl pickX rfl) rfl ?_
 refine RL.cmp (Wanted.free rfl) (V.bin rfl rfl rfl B.neq) rfl (fun h5 => ?_) (fun h5 => ?_)
 ·
  refine RL.nil ?_
  refine SG.cond_true rfl ?_
  refine SG.seq ?_
  refine SG.region ?_
  refine RL.val (Wanted.free rfl) (V.assign rfl rfl) rfl ?_
  refine RL.nil ?_
  rw [show beat p = [] from if_neg (by omega)]
  refine SG.ent (Sl.nil (T := RMsg)) ?_
  refine SG.retE (Ret.r1 Try.func21 rfl (.tmp rfl)) ?_ ⟨_, _, rfl, rfl⟩
  exact entX
 ·
  refine RL.nil ?_
  refine SG.cond_false rfl ?_
  refine SG.skip ?_
  refine SG.seq ?_
  refine SG.region ?_
  refine RL.val (Wanted.free rfl) (V.loadAgg (us := pv p (.slice ka kn kc) (.slice wa wn wc) (.slice xa xn xc)) rfl ag26 rfl pickX rfl rfl) rfl ?_
  refine RL.eff (Wanted.free rfl) (E.call rfl go57 rfl (copied_ok (us := pv p (.slice ka kn kc) (.slice wa wn wc) (.slice xa xn xc)) (p := p) memX (by omega) (by omega) (by omega))) rfl ?_
  rintro _ _ ⟨b10, rfl, rfl⟩
  refine RL.val (Wanted.free rfl) (V.assign rfl rfl) rfl ?_
  refine RL.nil ?_
  refine SG.seq ?_
  refine SG.seq ?_
  have hr2 := hr (by omega)
  refine SG.openNd Pick.here fun la ln lc va vn vc ma mn mc oa on oc => ?_
  refine SG.buf (T := RSlot) (a := la) pickX fun hll _ _ => ?_
  refine SG.buf (T := RI) (a := ma) pickX fun hml _ _ => ?_
  refine SG.buf (T := RMsg) (a := oa) pickX fun hol _ _ => ?_
  subst hll; subst hml; subst hol
  refine SG.publish (T := RSlot) (a := la) pickX ?_
  refine SG.region ?_
  refine RL.val (Wanted.free rfl) (V.move rfl rfl) rfl ?_
  refine RL.val (Wanted.free rfl) (V.nilCheck rfl rfl) rfl ?_
  refine RL.val (Wanted.free rfl) (V.fieldAddr rfl rfl fo94_0) rfl ?_
  refine RL.val (Wanted.free rfl) (V.fieldAddr rfl rfl fo26_8) rfl ?_
  refine RL.val (Wanted.free rfl) (V.load rfl on22 rfl pickX rfl) rfl ?_
  refine RL.val (Wanted.free rfl) (V.len rfl rfl el22.under rfl) rfl ?_
  refine RL.val (Wanted.free rfl) (V.move rfl rfl) rfl ?_
  refine RL.nil ?_
  refine SG.block ?_
  refine SG.weaken (SG.loop2 (fun m al M => ∃ (i : Nat) (a2 : Option Addr) (c2 : Nat), i ≤ p.mtch.length ∧ m = p.mtch.length - i ∧ al = [(3, ptr b10 0), (15, .slice ma p.mtch.length mc), (16, vI p.mtch.length), (17, vI i)] ∧ M = Blk b10 94 (nv p (.slice la p.log.length lc) (.slice va vn vc) (.slice ma p.mtch.length mc) (.slice a2 (othersN p (beatM p) i).length c2)) :: Buf RMsg 50 a2 (othersN p (beatM p) i).length c2 (othersN p (beatM p) i) :: Sl RSlot la p.log.length lc p.log :: Buf RI 3 ma p.mtch.length mc p.mtch :: L) (m0 := _) ⟨0, oa, oc, by omega, rfl, rfl, rfl⟩ ?_) ?_ ?_
  rotate_left
  ·
   repeat (first | exact EnvLe.nil _ | refine EnvLe.cons rfl ?_)
  ·
   exact entX
  rintro _ _ _ ⟨i, a2, c2, hi, rfl, rfl, rfl⟩ ih0
  refine SG.seq ?_
  refine SG.region ?_
  refine RL.cmp (Wanted.free rfl) (V.bin rfl rfl rfl B.lss) rfl (fun h17 => ?_) (fun h17 => ?_)
  ·
   refine RL.nil ?_
   refine SG.seq ?_
   refine SG.cond_true rfl ?_
   refine SG.skip ?_
   refine SG.seq ?_
   refine SG.block ?_
   refine SG.seq ?_
   have hol := othersN_len p (beatM p) i
   obtain ⟨hm0, hm1⟩ := hmm (p.mtch[i]'(by omega)) (List.getElem_mem _)
   obtain ⟨k, hk⟩ := Int.eq_ofNat_of_zero_le hm0
   refine SG.region ?_
   refine RL.val (Wanted.free rfl) (V.move rfl rfl) rfl ?_
   refine RL.val (Wanted.free rfl) (V.indexBuf (j := i) rfl el22.slice rfl rfl pickX (by first | rfl | omega) (by omega)) rfl ?_
   refine RL.val (Wanted.free rfl) (V.loadBufSc rfl on3 rfl pickX (List.getElem?_eq_getElem (by omega))) rfl ?_
   rw [hk]
   refine RL.val (Wanted.free rfl) (V.assign rfl rfl) rfl ?_
   refine RL.val (Wanted.free rfl) (V.assign rfl rfl) rfl ?_
   refine RL.nil ?_
   refine SG.seq ?_
   refine SG.region ?_
   refine RL.val (Wanted.free rfl) (V.move rfl rfl) rfl ?_
   refine RL.val (Wanted.free rfl) (V.move rfl rfl) rfl ?_
   refine RL.val (Wanted.free rfl) (V.nilCheck rfl rfl) rfl ?_
   refine RL.val (Wanted.free rfl) (V.fieldAddr rfl rfl fo94_0) rfl ?_
   refine RL.val (Wanted.free rfl) (V.fieldAddr rfl rfl fo26_0) rfl ?_
   refine RL.val (Wanted.free rfl) (V.load rfl on3 rfl pickX rfl) rfl ?_
   refine RL.cmp (Wanted.free rfl) (V.bin rfl rfl rfl B.neq) rfl (fun h29 => ?_) (fun h29 => ?_)
   ·
    refine RL.nil ?_
    refine SG.cond_true rfl ?_
    refine SG.cut (lo := k) (hi := p.log.length) (l' := p.log.drop k) (a := la) (T := RSlot) memX (by omega) (by omega) (List.take_of_length_le (by rw [List.length_drop]; omega)) ?_
    refine SG.drawN 21 21 (Ex (fun (x : Value) => [Blk b10 94 (nv p (.slice la p.log.length lc) (.slice va vn vc) (.slice ma p.mtch.length mc) x)]) :: Sl RSlot la p.log.length lc p.log :: L) wide rfl rfl (by refine Ex.keep (.slice a2 (othersN p (beatM p) i).length c2) ?_; (· repeat (first | exact Ent.refl _ | (apply Ent.cons; (· repeat (first | exact Pick.here | (refine Pick.sl ?_; (· repeat (first | exact List.Mem.head _ | assumption | apply List.Mem.tail))) | apply Pick.there))) | (refine Ent.trans (Ent.drop _ _) ?_)))) ?_
    refine RH.val 0 rfl krX krX krX krX (Wanted.free rfl) (V.move rfl rfl) rfl ?_
    refine RH.val 1 rfl krX krX krX krX (Wanted.free rfl) (V.move rfl rfl) rfl ?_
    refine RH.val 2 rfl krX krX krX krX (Wanted.free rfl) (V.move rfl rfl) rfl ?_
    refine RH.val 3 rfl krX krX krX krX (Wanted.free rfl) (V.move rfl rfl) rfl ?_
    refine RH.val 4 rfl krX krX krX krX (Wanted.free rfl) (V.move rfl rfl) rfl ?_
    refine RH.val 6 rfl krX krX krX krX (Wanted.free rfl) (V.move rfl rfl) rfl ?_
    refine RH.val 7 rfl krX krX krX krX (Wanted.free rfl) (V.nilCheck rfl rfl) rfl ?_
    refine RH.val 8 rfl krX krX krX krX (Wanted.free rfl) (V.fieldAddr rfl rfl fo94_0) rfl ?_
    refine RH.val 9 rfl krX krX krX krX (Wanted.free rfl) (V.fieldAddr rfl rfl fo26_5) rfl ?_
    refine RH.val 10 rfl krX krX krX krX (Wanted.free rfl) (V.openEx Pick.here fun x => V.load rfl on3 rfl Pick.here rfl) rfl ?_
    refine RH.val 11 rfl krX krX krX krX (Wanted.free rfl) (V.move rfl rfl) rfl ?_
    refine RH.val 12 rfl krX krX krX krX (Wanted.free rfl) (V.nilCheck rfl rfl) rfl ?_
    refine RH.val 13 rfl krX krX krX krX (Wanted.free rfl) (V.fieldAddr rfl rfl fo94_0) rfl ?_
    refine RH.val 14 rfl krX krX krX krX (Wanted.free rfl) (V.fieldAddr rfl rfl fo26_6) rfl ?_
    refine RH.val 15 rfl krX krX krX krX (Wanted.free rfl) (V.openEx Pick.here fun x => V.load rfl on23 rfl Pick.here rfl) rfl ?_
    refine RH.val 16 rfl krX krX krX krX (Wanted.free rfl) (V.move rfl rfl) rfl ?_
    refine RH.val 17 rfl krX krX krX krX (Wanted.free rfl) (V.slice (T := RSlot) (lo := k) (hi := p.log.length) rfl el23.slice rfl ⟨_, _, rfl, (by first | rfl | omega)⟩ rfl (by omega) (by omega)) rfl ?_
    refine RH.one (i := 5) krX ?_
    refine RHone.eff rfl (Wanted.free rfl) (E.call rfl go59 rfl (term_sl (p := p) (i := (k : Int)) pickX memX (by omega) (by omega))) rfl ?_
    rintro _ _ ⟨rfl, rfl⟩
    refine ⟨.inr (by first | (refine Ex.keep (.slice a2 (othersN p (beatM p) i).length c2) ?_; (· repeat (first | exact Ent.refl _ | (apply Ent.cons; (· repeat (first | exact Pick.here | (refine Pick.sl ?_; (· repeat (first | exact List.Mem.head _ | assumption | apply List.Mem.tail))) | apply Pick.there))) | (refine Ent.trans (Ent.drop _ _) ?_)))) | (refine Ex.keep (.slice a49 ((othersN p (beatM p) i).length + 1) c49) ?_; (· repeat (first | exact Ent.refl _ | (apply Ent.cons; (· repeat (first | exact Pick.here | (refine Pick.sl ?_; (· repeat (first | exact List.Mem.head _ | assumption | apply List.Mem.tail))) | apply Pick.there))) | (refine Ent.trans (Ent.drop _ _) ?_))))), ?_⟩
    refine RH.one (i := 18) krX ?_
    refine RHone.eff rfl (Wanted.free rfl) (E.call rfl go68 rfl (cloneSl_ok (l := p.log.drop k) memX (by rw [List.length_drop]; omega))) rfl ?_
    rintro _ _ ⟨a47, c47, rfl, rfl⟩
    refine ⟨.inr (by first | (refine Ex.keep (.slice a2 (othersN p (beatM p) i).length c2) ?_; (· repeat (first | exact Ent.refl _ | (apply Ent.cons; (· repeat (first | exact Pick.here | (refine Pick.sl ?_; (· repeat (first | exact List.Mem.head _ | assumption | apply List.Mem.tail))) | apply Pick.there))) | (refine Ent.trans (Ent.drop _ _) ?_)))) | (refine Ex.keep (.slice a49 ((othersN p (beatM p) i).length + 1) c49) ?_; (· repeat (first | exact Ent.refl _ | (apply Ent.cons; (· repeat (first | exact Pick.here | (refine Pick.sl ?_; (· repeat (first | exact List.Mem.head _ | assumption | apply List.Mem.tail))) | apply Pick.there))) | (refine Ent.trans (Ent.drop _ _) ?_))))), ?_⟩
    refine RH.val 19 rfl krX krX krX krX (Wanted.free rfl) (V.buildS [(0, _), (2, _), (4, _), (5, _), (6, _), (7, _)] rfl bs50 (by exact ⟨rfl, ⟨_, rfl, rfl⟩, ⟨rfl, ⟨_, rfl, rfl⟩, ⟨rfl, ⟨_, rfl, rfl⟩, ⟨rfl, ⟨_, rfl, rfl⟩, ⟨rfl, ⟨_, rfl, rfl⟩, ⟨rfl, ⟨_, rfl, rfl⟩, trivial⟩⟩⟩⟩⟩⟩) rfl) rfl ?_
    refine RH.publish (T := RSlot) (a := a47) Pick.here ?_
    refine RH.ent (RMsg.mk (m := ⟨3, 0, i, 0, k, termAt p.log k, p.commit, p.log.drop k, false⟩) (a := a47) memX) ?_
    refine RH.one (i := 20) krX ?_
    refine RHone.eff rfl (Wanted.free rfl) (E.call rfl go58 rfl (send_ok (p := p) (m := ⟨3, 0, i, 0, k, termAt p.log k, p.commit, p.log.drop k, false⟩) (by repeat (first | exact Ent.refl _ | (apply Ent.cons; (· repeat (first | exact Pick.here | (refine Pick.sl ?_; (· repeat (first | exact List.Mem.head _ | assumption | apply List.Mem.tail))) | apply Pick.there))) | (refine Ent.trans (Ent.drop _ _) ?_))) memX (by omega))) rfl ?_
    rintro _ _ ⟨a49, c49, rfl, rfl⟩
    refine ⟨.inr (by first | (refine Ex.keep (.slice a2 (othersN p (beatM p) i).length c2) ?_; (· repeat (first | exact Ent.refl _ | (apply Ent.cons; (· repeat (first | exact Pick.here | (refine Pick.sl ?_; (· repeat (first | exact List.Mem.head _ | assumption | apply List.Mem.tail))) | apply Pick.there))) | (refine Ent.trans (Ent.drop _ _) ?_)))) | (refine Ex.keep (.slice a49 ((othersN p (beatM p) i).length + 1) c49) ?_; (· repeat (first | exact Ent.refl _ | (apply Ent.cons; (· repeat (first | exact Pick.here | (refine Pick.sl ?_; (· repeat (first | exact List.Mem.head _ | assumption | apply List.Mem.tail))) | apply Pick.there))) | (refine Ent.trans (Ent.drop _ _) ?_))))), ?_⟩
    refine RH.done krX ?_
    refine SG.inBlock ?_
    refine SG.region ?_
    refine RL.val (Wanted.free rfl) (V.bin rfl rfl rfl (B.addI (by omega) (by omega))) rfl ?_
    refine RL.val (Wanted.free rfl) (V.move rfl rfl) rfl ?_
    refine RL.nil ?_
    have hoy := others_yes (p := p) (f := beatM p) (i := i) (by omega)
    rw [beatM_eq (by omega) hk] at hoy
    refine SG.weaken (ih0 _ _ _ ?_ ⟨i + 1, a49, c49, by omega, rfl, rfl, rfl⟩) ?_ ?_
    ·
     omega
    ·
     repeat (first | exact EnvLe.nil _ | refine EnvLe.cons rfl ?_)
    ·
     rw [hoy, List.length_append, List.length_singleton]
     exact entX
   ·
    refine RL.nil ?_
    refine SG.cond_false rfl ?_
    refine SG.skip ?_
    refine SG.inBlock ?_
    refine SG.region ?_
    refine RL.val (Wanted.free rfl) (V.bin rfl rfl rfl (B.addI (by omega) (by omega))) rfl ?_
    refine RL.val (Wanted.free rfl) (V.move rfl rfl) rfl ?_
    refine RL.nil ?_
    have hoy := others_no (p := p) (f := beatM p) (i := i) (by omega)
    refine SG.weaken (ih0 _ _ _ ?_ ⟨i + 1, a2, c2, by omega, rfl, rfl, rfl⟩) ?_ ?_
    ·
     omega
    ·
     repeat (first | exact EnvLe.nil _ | refine EnvLe.cons rfl ?_)
    ·
     rw [hoy]
     exact entX
  ·
   refine RL.nil ?_
   refine SG.seq ?_
   refine SG.cond_false rfl ?_
   refine SG.exit rfl ?_
   refine SG.seq ?_
   obtain rfl : i = p.nodes.toNat := by omega
   rw [beat_all (by omega)]
   refine SG.publish (T := RMsg) (a := a2) pickX ?_
   refine SG.region ?_
   refine RL.val (Wanted.free rfl) (V.move rfl rfl) rfl ?_
   refine RL.val (Wanted.free rfl) (V.nilCheck rfl rfl) rfl ?_
   refine RL.val (Wanted.free rfl) (V.fieldAddr rfl rfl fo94_1) rfl ?_
   refine RL.val (Wanted.free rfl) (V.load rfl on35 rfl pickX rfl) rfl ?_
   refine RL.val (Wanted.free rfl) (V.assign rfl rfl) rfl ?_
   refine RL.nil ?_
   refine SG.retE (Ret.r1 Try.func21 rfl (.tmp rfl)) ?_ ⟨_, _, rfl, rfl⟩
   exact entX

end Go.Proofs.Ytilcnglcflohoaa
