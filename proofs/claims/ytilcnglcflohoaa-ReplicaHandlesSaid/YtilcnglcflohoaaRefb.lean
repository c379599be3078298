/- The reference: counting. -/
import Derived.Test.YtilcnglcflohoaaRefa
namespace Go.Proofs.Ytilcnglcflohoaa
open Go.Wk Go.Rp

set_option maxRecDepth 100000 in
theorem rCom_ok {κ : World} {L : List Assn} {us : List Value} {p : Peer} (hm : Rd RPeer us p ∈ L) (hb : p.log.length ≤ 1000000) (h0 : 0 ≤ p.commit) (h1 : p.commit ≤ p.log.length) (hd : ∀ x ∈ p.log, x.data.length ≤ 1000000) :
    Ctr Try.prog 27 #[.agg us.toArray] κ L (fun v M => ∃ a' c', v = .slice a' (committed p).length c' ∧ M = Sl RS a' (committed p).length c' (committed p) :: L) := by
 refine Ctr.enter (vs := [.agg us.toArray]) (m := 28) Try.func27 rfl rfl rfl ?_
 refine SG.openPeer (Pick.rd hm) fun ka kn kc wa wn wc xa xn xc hus => ?_
 subst hus
 refine SG.sl (T := RSlot) (a := ka) memX fun hkn _ _ => ?_
 subst hkn
 refine SG.ent (Buf.nil (T := RS) (e := 9)) ?_
 refine SG.seq ?_
 refine SG.region ?_
 refine RL.eff (Wanted.free rfl) (E.box _ rfl rfl rfl) rfl ?_
 rintro _ _ ⟨b1, rfl, rfl⟩
 refine RL.val (Wanted.free rfl) (V.assign rfl rfl) rfl ?_
 refine RL.nil ?_
 refine SG.seq ?_
 refine SG.region ?_
 refine RL.val (Wanted.free rfl) (V.assign rfl rfl) rfl ?_
 refine RL.nil ?_
 refine SG.seq ?_
 refine SG.seq ?_
 refine SG.region ?_
 refine RL.val (Wanted.free rfl) (V.assign rfl rfl) rfl ?_
 refine RL.nil ?_
 refine SG.block ?_
 refine SG.weaken (SG.loop2 (fun m al M => ∃ (i : Nat) (a3 : Option Addr) (c3 : Nat), i ≤ p.commit.toNat ∧ m = p.commit.toNat - i ∧ al = [(1, ptr b1 0), (2, .slice none 0 0), (3, .slice a3 i c3), (4, vI i)] ∧ M = Buf RS 9 a3 i c3 ((p.log.take i).map (·.data)) :: Blk b1 26 (pv p (.slice ka p.log.length kc) (.slice wa wn wc) (.slice xa xn xc)) :: Sl RSlot ka p.log.length kc p.log :: L) (m0 := _) ⟨0, none, 0, by omega, rfl, rfl, rfl⟩ ?_) ?_ ?_
 rotate_left
 ·
  repeat (first | exact EnvLe.nil _ | refine EnvLe.cons rfl ?_)
 ·
  exact entX
 rintro _ _ _ ⟨i, a3, c3, hi, rfl, rfl, rfl⟩ ih0
 refine SG.seq ?_
 refine SG.seq ?_
 refine SG.region ?_
 refine RL.val (Wanted.free rfl) (V.move rfl rfl) rfl ?_
 refine RL.val (Wanted.free rfl) (V.fieldAddr rfl rfl fo26_5) rfl ?_
 refine RL.val (Wanted.free rfl) (V.load rfl on3 rfl pickX rfl) rfl ?_
 refine RL.cmp (Wanted.free rfl) (V.bin rfl rfl rfl B.lss) rfl (fun h8 => ?_) (fun h8 => ?_)
 ·
  refine RL.val (Wanted.free rfl) (V.move rfl rfl) rfl ?_
  refine RL.val (Wanted.yes rfl rfl rfl rfl) (V.move rfl rfl) rfl ?_
  refine RL.val (Wanted.yes rfl rfl rfl rfl) (V.fieldAddr rfl rfl fo26_6) rfl ?_
  refine RL.val (Wanted.yes rfl rfl rfl rfl) (V.load rfl on23 rfl pickX rfl) rfl ?_
  refine RL.val (Wanted.yes rfl rfl rfl rfl) (V.len rfl rfl el23.under rfl) rfl ?_
  refine RL.cmpT (Wanted.yes rfl rfl rfl rfl) (V.bin rfl rfl rfl B.lss) rfl (by omega) ?_
  refine RL.val (Wanted.free rfl) (V.pick_true rfl rfl rfl) rfl ?_
  refine RL.nil ?_
  refine SG.cond_true rfl ?_
  refine SG.skip ?_
  refine SG.seq ?_
  refine SG.block ?_
  have hil : i < p.log.length := by omega
  refine SG.elemDt (a := ka) (l := p.log) memX (List.getElem?_eq_getElem hil) fun _ => ?_
  refine SG.region ?_
  refine RL.val (Wanted.free rfl) (V.move rfl rfl) rfl ?_
  refine RL.val (Wanted.free rfl) (V.fieldAddr rfl rfl fo26_6) rfl ?_
  refine RL.val (Wanted.free rfl) (V.load rfl on23 rfl pickX rfl) rfl ?_
  refine RL.val (Wanted.free rfl) (V.move rfl rfl) rfl ?_
  refine RL.val (Wanted.free rfl) (V.indexSl (T := RSlot) (a := ka) (l := p.log) (j := i) rfl el23.slice rfl rfl memX rfl hil) rfl ?_
  refine RL.val (Wanted.free rfl) (V.fieldAt rfl rfl fo53_1 memX) rfl ?_
  refine RL.val (Wanted.free rfl) (V.loadAtF rfl on9 rfl memX rfl) rfl ?_
  refine RL.eff (Wanted.free rfl) (E.lit1 [vS (p.log[i]'hil).data] rfl el45.slice ze9 rfl (by decide) (by decide) rfl rfl rfl) rfl ?_
  rintro _ _ ⟨b25, rfl, rfl⟩
  refine RL.eff (Wanted.free rfl) (E.append (T := RS) rfl rfl rfl el45 el45.noInt rfl rfl pickX (Src.lit (x := (p.log[i]'hil).data) pickX (by have := hd _ (List.getElem_mem hil); omega)) (by first | omega | (simp; omega)) (by first | omega | (simp; omega))) rfl ?_
  intro _ _ hK22
  try rw [List.nil_append] at hK22
  try rw [Nat.zero_add] at hK22
  rw [← com_step hil] at hK22
  obtain ⟨a26, c26, rfl, rfl⟩ := hK22
  refine RL.val (Wanted.free rfl) (V.assign rfl rfl) rfl ?_
  refine RL.nil ?_
  refine SG.inBlock ?_
  refine SG.region ?_
  refine RL.val (Wanted.free rfl) (V.move rfl rfl) rfl ?_
  refine RL.val (Wanted.free rfl) (V.bin rfl rfl rfl (B.addI (by omega) (by omega))) rfl ?_
  refine RL.val (Wanted.free rfl) (V.assign rfl rfl) rfl ?_
  refine RL.nil ?_
  refine SG.weaken (ih0 _ _ _ ?_ ⟨i + 1, a26, c26, by omega, rfl, rfl, rfl⟩) ?_ ?_
  ·
   omega
  ·
   repeat (first | exact EnvLe.nil _ | refine EnvLe.cons rfl ?_)
  ·
   exact entX
 ·
  refine RL.val (Wanted.free rfl) (V.move rfl rfl) rfl ?_
  refine RL.skip (Wanted.no rfl rfl rfl rfl rfl) rfl ?_
  refine RL.skip (Wanted.no rfl rfl rfl rfl rfl) rfl ?_
  refine RL.skip (Wanted.no rfl rfl rfl rfl rfl) rfl ?_
  refine RL.skip (Wanted.no rfl rfl rfl rfl rfl) rfl ?_
  refine RL.skip (Wanted.no rfl rfl rfl rfl rfl) rfl ?_
  refine RL.val (Wanted.free rfl) (V.pick_false rfl rfl rfl) rfl ?_
  refine RL.nil ?_
  refine SG.cond_false rfl ?_
  refine SG.exit rfl ?_
  refine SG.seq ?_
  obtain rfl : i = p.commit.toNat := by omega
  refine SG.publish (T := RS) (a := a3) (l := committed p) pickX ?_
  rw [show p.commit.toNat = (committed p).length from by rw [committed, List.length_map, List.length_take]; omega]
  refine SG.region ?_
  refine RL.val (Wanted.free rfl) (V.move rfl rfl) rfl ?_
  refine RL.val (Wanted.free rfl) (V.assign rfl rfl) rfl ?_
  refine RL.nil ?_
  refine SG.retE (Ret.r1 Try.func27 rfl (.tmp rfl)) ?_ ⟨_, _, rfl, rfl⟩
  exact entX

set_option maxRecDepth 100000 in
theorem matched_ok {κ : World} {L : List Assn} {a : Option Addr} {n c : Nat} {l : List Int} (hm : Sl RI a n c l ∈ L) (hb : l.length ≤ 1000) {j x : Int} (h0 : 0 ≤ j) (h1 : j < l.length) (hx : inInt x) :
    Ctr Try.prog 66 #[.slice a n c, vI j, vI x] κ L (fun v M => ∃ a' c', v = .slice a' l.length c' ∧ M = Buf RI 3 a' l.length c' (l.set j.toNat x) :: L) := by
 refine Ctr.enter (vs := [.slice a n c, vI j, vI x]) (m := 16) Try.func66 rfl rfl rfl ?_
 refine SG.sl hm fun hn _ _ => ?_
 subst hn
 refine SG.ent (Buf.nil (T := RI) (e := 3)) ?_
 refine SG.seq ?_
 refine SG.region ?_
 refine RL.val (Wanted.free rfl) (V.assign rfl rfl) rfl ?_
 refine RL.nil ?_
 refine SG.seq ?_
 refine SG.region ?_
 refine RL.val (Wanted.free rfl) (V.assign rfl rfl) rfl ?_
 refine RL.nil ?_
 refine SG.seq ?_
 refine SG.region ?_
 refine RL.val (Wanted.free rfl) (V.move rfl rfl) rfl ?_
 refine RL.val (Wanted.free rfl) (V.move rfl rfl) rfl ?_
 refine RL.eff (Wanted.free rfl) (E.append (T := RI) rfl rfl rfl el22 el22.noInt rfl rfl pickX (Src.sl (by decide) memX) (by first | omega | (simp; omega)) (by first | omega | (simp; omega))) rfl ?_
 intro _ _ hK5
 try rw [List.nil_append] at hK5
 try rw [Nat.zero_add] at hK5
 obtain ⟨a10, c10, rfl, rfl⟩ := hK5
 refine RL.val (Wanted.free rfl) (V.assign rfl rfl) rfl ?_
 refine RL.nil ?_
 refine SG.seq ?_
 refine SG.region ?_
 refine RL.val (Wanted.free rfl) (V.move rfl rfl) rfl ?_
 refine RL.val (Wanted.free rfl) (V.move rfl rfl) rfl ?_
 refine RL.val (Wanted.free rfl) (V.move rfl rfl) rfl ?_
 refine RL.val (Wanted.free rfl) (V.indexBuf (j := j.toNat) rfl el22.slice rfl rfl pickX (by first | rfl | omega) (by omega)) rfl ?_
 refine RL.eff (Wanted.free rfl) (E.storeBuf [vI x] rfl sz3 rfl rfl rfl pickX (by omega) (fun _ _ _ => ⟨rfl, hx⟩)) rfl ?_
 rintro _ _ rfl
 refine RL.nil ?_
 refine SG.seq ?_
 refine SG.region ?_
 refine RL.val (Wanted.free rfl) (V.move rfl rfl) rfl ?_
 refine RL.val (Wanted.free rfl) (V.assign rfl rfl) rfl ?_
 refine RL.nil ?_
 refine SG.retE (Ret.r1 Try.func66 rfl (.tmp rfl)) ?_ ⟨a10, c10, rfl, rfl⟩
 exact entX

set_option maxRecDepth 100000 in
set_option maxHeartbeats 1000000 in
theorem rcount_ok {κ : World} {L : List Assn} {us : List Value} {p : Peer} (hm : Rd RPeer us p ∈ L) (hb1 : p.log.length ≤ 1000000) (hb2 : p.mtch.length ≤ 1000) (_ : p.nodes ≤ 1000) (hc0 : 0 ≤ p.commit) (hc1 : p.commit ≤ p.log.length) :
    Ctr Try.prog 67 #[.agg us.toArray] κ L (fun v M => ∃ us', v = .agg us'.toArray ∧ M = Rd RPeer us' (counted p) :: L) := by
 refine Ctr.enter (vs := [.agg us.toArray]) (m := 53) Try.func67 rfl rfl rfl ?_
 refine SG.openPeer (Pick.rd hm) fun ka kn kc wa wn wc xa xn xc hus => ?_
 subst hus
 refine SG.sl (T := RSlot) (a := ka) memX fun hkn _ _ => ?_
 subst hkn
 refine SG.sl (T := RI) (a := xa) memX fun hxn _ _ => ?_
 subst hxn
 have hbc := best_le (p := p) (n := p.commit.toNat) (by omega)
 refine SG.seq ?_
 refine SG.region ?_
 refine RL.eff (Wanted.free rfl) (E.box _ rfl rfl rfl) rfl ?_
 rintro _ _ ⟨b1, rfl, rfl⟩
 refine RL.eff (Wanted.free rfl) (E.alloc rfl ze26) rfl ?_
 rintro _ _ ⟨b2, rfl, rfl⟩
 refine RL.nil ?_
 refine SG.seq ?_
 refine SG.region ?_
 refine RL.val (Wanted.free rfl) (V.fieldAddr rfl rfl fo26_5) rfl ?_
 refine RL.val (Wanted.free rfl) (V.load rfl on3 rfl pickX rfl) rfl ?_
 refine RL.val (Wanted.free rfl) (V.assign rfl rfl) rfl ?_
 refine RL.nil ?_
 refine SG.seq ?_
 refine SG.seq ?_
 refine SG.region ?_
 refine RL.val (Wanted.free rfl) (V.fieldAddr rfl rfl fo26_5) rfl ?_
 refine RL.val (Wanted.free rfl) (V.load rfl on3 rfl pickX rfl) rfl ?_
 refine RL.val (Wanted.free rfl) (V.bin rfl rfl rfl (B.addI (by omega) (by omega))) rfl ?_
 refine RL.val (Wanted.free rfl) (V.assign rfl rfl) rfl ?_
 refine RL.nil ?_
 refine SG.block ?_
 refine SG.weaken (SG.loop2 (fun m al M => ∃ k : Nat, p.commit ≤ k ∧ k ≤ p.log.length ∧ m = p.log.length - k ∧ al = [(1, ptr b1 0), (2, ptr b2 0), (3, vI (best p k)), (4, vI ((k + 1 : Nat) : Int))] ∧ M = Blk b1 26 (pv p (.slice ka p.log.length kc) (.slice wa wn wc) (.slice xa p.mtch.length xc)) :: Sl RSlot ka p.log.length kc p.log :: Sl RB wa wn wc p.votes :: Sl RI xa p.mtch.length xc p.mtch :: Blk b2 26 [.int .i64 0, .int .i64 0, .int .i64 0, .int .i64 0, .int .i64 0, .int .i64 0, .slice none 0 0, .slice none 0 0, .slice none 0 0] :: L) (m0 := _) ⟨p.commit.toNat, by omega, by omega, rfl, rfl, rfl⟩ ?_) ?_ ?_
 rotate_left
 ·
  rw [hbc, show ((p.commit.toNat + 1 : Nat) : Int) = p.commit + 1 from by omega]
  repeat (first | exact EnvLe.nil _ | refine EnvLe.cons rfl ?_)
 ·
  exact entX
 rintro _ _ _ ⟨k, hk0, hk, rfl, rfl, rfl⟩ ih0
 refine SG.seq ?_
 refine SG.seq ?_
 refine SG.region ?_
 refine RL.val (Wanted.free rfl) (V.move rfl rfl) rfl ?_
 refine RL.val (Wanted.free rfl) (V.fieldAddr rfl rfl fo26_6) rfl ?_
 refine RL.val (Wanted.free rfl) (V.load rfl on23 rfl pickX rfl) rfl ?_
 refine RL.val (Wanted.free rfl) (V.len rfl rfl el23.under rfl) rfl ?_
 refine RL.cmp (Wanted.free rfl) (V.bin rfl rfl rfl B.leq) rfl (fun h14 => ?_) (fun h14 => ?_)
 ·
  refine RL.nil ?_
  refine SG.cond_true rfl ?_
  refine SG.skip ?_
  refine SG.seq ?_
  refine SG.block ?_
  refine SG.seq ?_
  refine SG.region ?_
  refine RL.val (Wanted.free rfl) (V.assign rfl rfl) rfl ?_
  refine RL.nil ?_
  refine SG.seq ?_
  refine SG.seq ?_
  refine SG.region ?_
  refine RL.val (Wanted.free rfl) (V.assign rfl rfl) rfl ?_
  refine RL.nil ?_
  refine SG.block ?_
  refine SG.weaken (SG.loop2 (fun m0 al M => ∃ q : Nat, q ≤ p.mtch.length ∧ m0 = p.mtch.length - q ∧ al = [(1, ptr b1 0), (2, ptr b2 0), (3, vI (best p k)), (4, vI ((k + 1 : Nat) : Int)), (5, vI (cntI (p.mtch.take q) ((k + 1 : Nat) : Int) : Nat)), (6, vI q)] ∧ M = Blk b1 26 (pv p (.slice ka p.log.length kc) (.slice wa wn wc) (.slice xa p.mtch.length xc)) :: Sl RSlot ka p.log.length kc p.log :: Sl RB wa wn wc p.votes :: Sl RI xa p.mtch.length xc p.mtch :: Blk b2 26 [.int .i64 0, .int .i64 0, .int .i64 0, .int .i64 0, .int .i64 0, .int .i64 0, .slice none 0 0, .slice none 0 0, .slice none 0 0] :: L) (m0 := _) ⟨0, by omega, rfl, rfl, rfl⟩ ?_) ?_ ?_
  rotate_left
  ·
   repeat (first | exact EnvLe.nil _ | refine EnvLe.cons rfl ?_)
  ·
   exact entX
  rintro _ _ _ ⟨q, hq, rfl, rfl, rfl⟩ ih1
  refine SG.seq ?_
  refine SG.seq ?_
  refine SG.region ?_
  refine RL.val (Wanted.free rfl) (V.move rfl rfl) rfl ?_
  refine RL.val (Wanted.free rfl) (V.fieldAddr rfl rfl fo26_8) rfl ?_
  refine RL.val (Wanted.free rfl) (V.load rfl on22 rfl pickX rfl) rfl ?_
  refine RL.val (Wanted.free rfl) (V.len rfl rfl el22.under rfl) rfl ?_
  refine RL.cmp (Wanted.free rfl) (V.bin rfl rfl rfl B.lss) rfl (fun h21 => ?_) (fun h21 => ?_)
  ·
   refine RL.nil ?_
   refine SG.cond_true rfl ?_
   refine SG.skip ?_
   refine SG.seq ?_
   refine SG.block ?_
   refine SG.seq ?_
   have hql : q < p.mtch.length := by omega
   have hcl := cnt_le (p.mtch.take q) ((k + 1 : Nat) : Int)
   rw [List.length_take] at hcl
   have hcs := cnt_step (l := p.mtch) (k := q) (n := ((k + 1 : Nat) : Int)) hql
   refine SG.region ?_
   refine RL.val (Wanted.free rfl) (V.fieldAddr rfl rfl fo26_8) rfl ?_
   refine RL.val (Wanted.free rfl) (V.load rfl on22 rfl pickX rfl) rfl ?_
   refine RL.val (Wanted.free rfl) (V.move rfl rfl) rfl ?_
   refine RL.val (Wanted.free rfl) (V.indexSl (T := RI) (a := xa) (l := p.mtch) (j := q) rfl el22.slice rfl rfl memX rfl hql) rfl ?_
   refine RL.val (Wanted.free rfl) (V.loadSc (l := p.mtch) (j := q) rfl on3 rfl (show Sl RI xa p.mtch.length xc p.mtch ∈ _ from memX) (List.getElem?_eq_getElem hql)) rfl ?_
   refine RL.val (Wanted.free rfl) (V.move rfl rfl) rfl ?_
   refine RL.cmp (Wanted.free rfl) (V.bin rfl rfl rfl B.geq) rfl (fun h28 => ?_) (fun h28 => ?_)
   ·
    refine RL.nil ?_
    refine SG.cond_true rfl ?_
    refine SG.region ?_
    refine RL.val (Wanted.free rfl) (V.move rfl rfl) rfl ?_
    refine RL.val (Wanted.free rfl) (V.bin rfl rfl rfl (B.addI (by omega) (by omega))) rfl ?_
    refine RL.val (Wanted.free rfl) (V.assign rfl rfl) rfl ?_
    refine RL.nil ?_
    refine SG.inBlock ?_
    refine SG.region ?_
    refine RL.val (Wanted.free rfl) (V.move rfl rfl) rfl ?_
    refine RL.val (Wanted.free rfl) (V.bin rfl rfl rfl (B.addI (by omega) (by omega))) rfl ?_
    refine RL.val (Wanted.free rfl) (V.assign rfl rfl) rfl ?_
    refine RL.nil ?_
    refine SG.weaken (ih1 _ _ _ ?_ ⟨q + 1, by omega, rfl, rfl, rfl⟩) ?_ ?_
    ·
     omega
    ·
     rw [hcs, if_pos (by omega), Int.natCast_add]
     repeat (first | exact EnvLe.nil _ | refine EnvLe.cons rfl ?_)
    ·
     exact entX
   ·
    refine RL.nil ?_
    refine SG.cond_false rfl ?_
    refine SG.skip ?_
    refine SG.inBlock ?_
    refine SG.region ?_
    refine RL.val (Wanted.free rfl) (V.move rfl rfl) rfl ?_
    refine RL.val (Wanted.free rfl) (V.bin rfl rfl rfl (B.addI (by omega) (by omega))) rfl ?_
    refine RL.val (Wanted.free rfl) (V.assign rfl rfl) rfl ?_
    refine RL.nil ?_
    refine SG.weaken (ih1 _ _ _ ?_ ⟨q + 1, by omega, rfl, rfl, rfl⟩) ?_ ?_
    ·
     omega
    ·
     rw [hcs, if_neg (by omega), Nat.add_zero]
     repeat (first | exact EnvLe.nil _ | refine EnvLe.cons rfl ?_)
    ·
     exact entX
  ·
   refine RL.nil ?_
   refine SG.cond_false rfl ?_
   refine SG.exit rfl ?_
   refine SG.seq ?_
   obtain rfl : q = p.mtch.length := by omega
   rw [List.take_length]
   rw [← hasN_eq]
   have hhn : hasN p ((k + 1 : Nat) : Int) ≤ p.mtch.length := List.countP_le_length
   refine SG.drawL 14 14 wide rfl rfl ?_
   refine RH.val 0 rfl krX krX krX krX (Wanted.free rfl) (V.move rfl rfl) rfl ?_
   refine RH.val 1 rfl krX krX krX krX (Wanted.free rfl) (V.bin rfl rfl rfl (B.mulI (by omega) (by omega))) rfl ?_
   refine RH.val 2 rfl krX krX krX krX (Wanted.free rfl) (V.fieldAddr rfl rfl fo26_1) rfl ?_
   refine RH.val 3 rfl krX krX krX krX (Wanted.free rfl) (V.load rfl on3 rfl pickX rfl) rfl ?_
   refine RH.cmp 4 rfl krX krX krX krX (Wanted.free rfl) (V.bin rfl rfl rfl B.gtr) rfl (fun h42 => ?_) (fun h42 => ?_)
   ·
    refine RH.val 5 rfl krX krX krX krX (Wanted.free rfl) (V.move rfl rfl) rfl ?_
    refine RH.val 6 rfl krX krX krX krX (Wanted.yes rfl rfl rfl rfl) (V.fieldAddr rfl rfl fo26_6) rfl ?_
    refine RH.val 7 rfl krX krX krX krX (Wanted.yes rfl rfl rfl rfl) (V.load rfl on23 rfl pickX rfl) rfl ?_
    refine RH.val 8 rfl krX krX krX krX (Wanted.yes rfl rfl rfl rfl) (V.move rfl rfl) rfl ?_
    refine RH.val 10 rfl krX krX krX krX (Wanted.yes rfl rfl rfl rfl) (V.fieldAddr rfl rfl fo26_2) rfl ?_
    refine RH.val 11 rfl krX krX krX krX (Wanted.yes rfl rfl rfl rfl) (V.load rfl on3 rfl pickX rfl) rfl ?_
    refine RH.one (i := 9) krX ?_
    refine RHone.eff rfl (Wanted.yes rfl rfl rfl rfl) (E.call rfl go62 rfl (rterm_ok (l := p.log) (i := ((k + 1 : Nat) : Int)) memX (by omega) (by omega))) rfl ?_
    rintro _ _ ⟨rfl, rfl⟩
    refine ⟨.inr entX, ?_⟩
    refine RH.cmp 12 rfl krX krX krX krX (Wanted.yes rfl rfl rfl rfl) (V.bin rfl rfl rfl B.eql) rfl (fun h50 => ?_) (fun h50 => ?_)
    ·
     refine RH.pure 13 rfl krX krX krX krX (Wanted.free rfl) (V.pick_true rfl rfl rfl) rfl ?_
     refine RH.done krX ?_
     refine SG.cond_true rfl ?_
     refine SG.region ?_
     refine RL.val (Wanted.free rfl) (V.move rfl rfl) rfl ?_
     refine RL.val (Wanted.free rfl) (V.assign rfl rfl) rfl ?_
     refine RL.nil ?_
     refine SG.inBlock ?_
     refine SG.region ?_
     refine RL.val (Wanted.free rfl) (V.move rfl rfl) rfl ?_
     refine RL.val (Wanted.free rfl) (V.bin rfl rfl rfl (B.addI (by omega) (by omega))) rfl ?_
     refine RL.val (Wanted.free rfl) (V.assign rfl rfl) rfl ?_
     refine RL.nil ?_
     have hby := best_yes (p := p) (n := k) (by omega) ⟨by omega, by omega⟩
     refine SG.weaken (ih0 _ _ _ ?_ ⟨k + 1, by omega, by omega, rfl, rfl, rfl⟩) ?_ ?_
     ·
      omega
     ·
      rw [hby]
      repeat (first | exact EnvLe.nil _ | refine EnvLe.cons rfl ?_)
     ·
      exact entX
    ·
     refine RH.pure 13 rfl krX krX krX krX (Wanted.free rfl) (V.pick_true rfl rfl rfl) rfl ?_
     refine RH.done krX ?_
     refine SG.cond_false rfl ?_
     refine SG.skip ?_
     refine SG.inBlock ?_
     refine SG.region ?_
     refine RL.val (Wanted.free rfl) (V.move rfl rfl) rfl ?_
     refine RL.val (Wanted.free rfl) (V.bin rfl rfl rfl (B.addI (by omega) (by omega))) rfl ?_
     refine RL.val (Wanted.free rfl) (V.assign rfl rfl) rfl ?_
     refine RL.nil ?_
     have hbn := best_no (p := p) (n := k) (by omega) (by omega)
     refine SG.weaken (ih0 _ _ _ ?_ ⟨k + 1, by omega, by omega, rfl, rfl, rfl⟩) ?_ ?_
     ·
      omega
     ·
      rw [hbn]
      repeat (first | exact EnvLe.nil _ | refine EnvLe.cons rfl ?_)
     ·
      exact entX
   ·
    refine RH.val 5 rfl krX krX krX krX (Wanted.free rfl) (V.move rfl rfl) rfl ?_
    refine RH.skip 6 rfl krX krX krX krX (Wanted.no rfl rfl rfl rfl rfl) rfl ?_
    refine RH.skip 7 rfl krX krX krX krX (Wanted.no rfl rfl rfl rfl rfl) rfl ?_
    refine RH.skip 8 rfl krX krX krX krX (Wanted.no rfl rfl rfl rfl rfl) rfl ?_
    refine RH.skip 9 rfl krX krX krX krX (Wanted.no rfl rfl rfl rfl rfl) rfl ?_
    refine RH.skip 10 rfl krX krX krX krX (Wanted.no rfl rfl rfl rfl rfl) rfl ?_
    refine RH.skip 11 rfl krX krX krX krX (Wanted.no rfl rfl rfl rfl rfl) rfl ?_
    refine RH.skip 12 rfl krX krX krX krX (Wanted.no rfl rfl rfl rfl rfl) rfl ?_
    refine RH.pure 13 rfl krX krX krX krX (Wanted.free rfl) (V.pick_false rfl rfl rfl) rfl ?_
    refine RH.done krX ?_
    refine SG.cond_false rfl ?_
    refine SG.skip ?_
    refine SG.inBlock ?_
    refine SG.region ?_
    refine RL.val (Wanted.free rfl) (V.move rfl rfl) rfl ?_
    refine RL.val (Wanted.free rfl) (V.bin rfl rfl rfl (B.addI (by omega) (by omega))) rfl ?_
    refine RL.val (Wanted.free rfl) (V.assign rfl rfl) rfl ?_
    refine RL.nil ?_
    have hbn := best_no (p := p) (n := k) (by omega) (by omega)
    refine SG.weaken (ih0 _ _ _ ?_ ⟨k + 1, by omega, by omega, rfl, rfl, rfl⟩) ?_ ?_
    ·
     omega
    ·
     rw [hbn]
     repeat (first | exact EnvLe.nil _ | refine EnvLe.cons rfl ?_)
    ·
     exact entX
 ·
  refine RL.nil ?_
  refine SG.cond_false rfl ?_
  refine SG.exit rfl ?_
  refine SG.seq ?_
  obtain rfl : k = p.log.length := by omega
  refine SG.region ?_
  refine RL.val (Wanted.free rfl) (V.move rfl rfl) rfl ?_
  refine RL.val (Wanted.free rfl) (V.fieldAddr rfl rfl fo26_5) rfl ?_
  refine RL.eff (Wanted.free rfl) (E.store1 rfl rfl rfl rfl rfl sz3 pickX rfl) rfl ?_
  rintro _ _ rfl
  refine RL.nil ?_
  refine SG.seq ?_
  refine SG.region ?_
  refine RL.val (Wanted.free rfl) (V.loadAgg (us := pv (counted p) (.slice ka p.log.length kc) (.slice wa wn wc) (.slice xa p.mtch.length xc)) rfl ag26 rfl pickX rfl rfl) rfl ?_
  refine RL.eff (Wanted.free rfl) (E.storeWhole rfl rfl rfl (by rfl) sz26 pickX pv_one (by rfl)) rfl ?_
  rintro _ _ rfl
  refine RL.nil ?_
  refine SG.ent (RPeer.mk (p := counted p) (la := ka) (ln := p.log.length) (lc := kc) (va := wa) (vn := wn) (vc := wc) (ma := xa) (mn := p.mtch.length) (mc := xc) memX memX memX) ?_
  refine SG.retE (Ret.r1 Try.func67 rfl (.agg rfl ag26 pickX rfl rfl)) ?_ ⟨_, rfl, rfl⟩
  exact entX

end Go.Proofs.Ytilcnglcflohoaa
