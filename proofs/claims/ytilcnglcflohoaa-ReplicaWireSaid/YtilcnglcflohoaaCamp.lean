/- Campaign. -/
import Derived.Test.YtilcnglcflohoaaTops
namespace Go.Proofs.Ytilcnglcflohoaa
open Go.Wk Go.Rp

def othersN (p : Peer) (f : Int → Msg) (i : Nat) : List Msg := ((List.range i).filter fun i : Nat => decide ((i : Int) ≠ p.id)).map fun i : Nat => f i
theorem others_all (p : Peer) (f : Int → Msg) : othersN p f p.nodes.toNat = others p f := rfl
theorem others_yes {p : Peer} {f : Int → Msg} {i : Nat} (h : (i : Int) ≠ p.id) : othersN p f (i + 1) = othersN p f i ++ [f i] := by
  unfold othersN
  rw [List.range_succ, List.filter_append, List.map_append, List.filter_cons, if_pos (by simpa using h)]; rfl
theorem others_no {p : Peer} {f : Int → Msg} {i : Nat} (h : (i : Int) = p.id) : othersN p f (i + 1) = othersN p f i := by
  unfold othersN
  rw [List.range_succ, List.filter_append, List.map_append, List.filter_cons, if_neg (by simpa using h)]; simp
theorem othersN_len (p : Peer) (f : Int → Msg) (i : Nat) : (othersN p f i).length ≤ i := by
  unfold othersN
  rw [List.length_map]
  exact Nat.le_trans (List.length_filter_le _ _) (by rw [List.length_range]; exact Nat.le_refl _)
/-- A candidate without votes. -/
def camp0 (p : Peer) : Peer := { p with term := p.term + 1, voted := p.id, role := 1, mtch := [], votes := List.replicate p.nodes.toNat false }
theorem camp0_votes (p : Peer) : { camp0 p with votes := (List.replicate p.nodes.toNat false).set p.id.toNat true } = campQ p := rfl
set_option maxRecDepth 100000 in
set_option maxHeartbeats 1000000 in
theorem pCamp_ok {κ : World} {L : List Assn} {us : List Value} {p : Peer} (hm : Rd RPeer us p ∈ L) (hb1 : p.log.length ≤ 900000) (hb2 : p.votes.length ≤ 1000) (hb3 : p.mtch.length ≤ 1000) (hn1 : 1 ≤ p.nodes) (hn5 : p.nodes ≤ 5) (hi0 : 0 ≤ p.id) (hi1 : p.id < p.nodes) (ht0 : 0 ≤ p.term) (ht1 : p.term ≤ 1000000) :
    Ctr Try.prog 16 #[.agg us.toArray] κ L (fun v M => ∃ us' a c, v = .tuple #[.agg us'.toArray, .slice a (campaign p).2.length c] ∧ M = Rd RPeer us' (campaign p).1 :: Sl RMsg a (campaign p).2.length c (campaign p).2 :: L) := by
 refine Ctr.enter (vs := [.agg us.toArray]) (m := 105) Try.func16 rfl rfl rfl ?_
 refine SG.openPeer (Pick.rd hm) fun ka kn kc wa wn wc xa xn xc hus => ?_
 subst hus
 refine SG.seq ?_
 refine SG.region ?_
 refine RL.eff (Wanted.free rfl) (E.box _ rfl rfl rfl) rfl ?_
 rintro _ _ ⟨b1, rfl, rfl⟩
 refine RL.eff (Wanted.free rfl) (E.alloc rfl ze26) rfl ?_
 rintro _ _ ⟨b2, rfl, rfl⟩
 refine RL.val (Wanted.free rfl) (V.assign rfl rfl) rfl ?_
 refine RL.nil ?_
 refine SG.seq ?_
 refine SG.region ?_
 refine RL.val (Wanted.free rfl) (V.loadAgg (us := pv p (.slice ka kn kc) (.slice wa wn wc) (.slice xa xn xc)) rfl ag26 rfl pickX rfl rfl) rfl ?_
 refine RL.eff (Wanted.free rfl) (E.call rfl go57 rfl (copied_ok (us := pv p (.slice ka kn kc) (.slice wa wn wc) (.slice xa xn xc)) (p := p) memX (by omega) (by omega) (by omega))) rfl ?_
 rintro _ _ ⟨b7, rfl, rfl⟩
 refine RL.val (Wanted.free rfl) (V.assign rfl rfl) rfl ?_
 refine RL.nil ?_
 refine SG.seq ?_
 refine SG.openNd Pick.here fun la ln lc va vn vc ma mn mc oa on oc => ?_
 refine SG.buf (T := RSlot) (a := la) pickX fun hll _ _ => ?_
 subst hll
 refine SG.region ?_
 refine RL.val (Wanted.free rfl) (V.move rfl rfl) rfl ?_
 refine RL.val (Wanted.free rfl) (V.nilCheck rfl rfl) rfl ?_
 refine RL.val (Wanted.free rfl) (V.fieldAddr rfl rfl fo94_0) rfl ?_
 refine RL.val (Wanted.free rfl) (V.fieldAddr rfl rfl fo26_2) rfl ?_
 refine RL.val (Wanted.free rfl) (V.load rfl on3 rfl pickX rfl) rfl ?_
 refine RL.val (Wanted.free rfl) (V.bin rfl rfl rfl (B.addI (by omega) (by omega))) rfl ?_
 refine RL.val (Wanted.free rfl) (V.nilCheck rfl rfl) rfl ?_
 refine RL.val (Wanted.free rfl) (V.fieldAddr rfl rfl fo94_0) rfl ?_
 refine RL.val (Wanted.free rfl) (V.fieldAddr rfl rfl fo26_2) rfl ?_
 refine RL.eff (Wanted.free rfl) (E.store1 rfl rfl rfl rfl rfl sz3 pickX rfl) rfl ?_
 rintro _ _ rfl
 refine RL.nil ?_
 refine SG.seq ?_
 refine SG.join (ι := Nat) (fun b31 => [(2, ptr b2 0), (4, ptr b7 0)]) (fun b31 => Blk b7 94 (nv (camp0 p) (.slice la p.log.length lc) (.slice (some ⟨b31, 0, none⟩) p.nodes.toNat p.nodes.toNat) (.slice none 0 0) (.slice oa on oc)) :: Buf RSlot 53 la p.log.length lc p.log :: Buf RB 4 (some ⟨b31, 0, none⟩) p.nodes.toNat p.nodes.toNat (List.replicate p.nodes.toNat false) :: Buf RMsg 50 oa on oc [] :: Blk b2 26 [.int .i64 0, .int .i64 0, .int .i64 0, .int .i64 0, .int .i64 0, .int .i64 0, .slice none 0 0, .slice none 0 0, .slice none 0 0] :: L) (fun b31 => True) ?_ (fun rest => ?_)
 ·
  rintro b31 _
  try dsimp only
  refine SG.seq ?_
  have hc0 : (camp0 p).id = p.id := rfl
  refine SG.ent (?_ : Ent _ (Blk b7 94 (nv (camp0 p) (.slice la p.log.length lc) (.slice (some ⟨b31, 0, none⟩) p.nodes.toNat p.nodes.toNat) (.slice none 0 0) (.slice oa on oc)) :: Buf RSlot 53 la p.log.length lc p.log :: Buf RB 4 (some ⟨b31, 0, none⟩) p.nodes.toNat p.nodes.toNat (List.replicate p.nodes.toNat false) :: Buf RMsg 50 oa on oc [] :: Blk b2 26 [.int .i64 0, .int .i64 0, .int .i64 0, .int .i64 0, .int .i64 0, .int .i64 0, .slice none 0 0, .slice none 0 0, .slice none 0 0] :: L)) ?_
  ·
   exact entX
  refine SG.drawL 12 11 wide rfl rfl ?_
  refine RH.val 0 rfl krX krX krX krX (Wanted.free rfl) (V.move rfl rfl) rfl ?_
  refine RH.val 1 rfl krX krX krX krX (Wanted.free rfl) (V.nilCheck rfl rfl) rfl ?_
  refine RH.val 2 rfl krX krX krX krX (Wanted.free rfl) (V.fieldAddr rfl rfl fo94_0) rfl ?_
  refine RH.val 3 rfl krX krX krX krX (Wanted.free rfl) (V.fieldAddr rfl rfl fo26_7) rfl ?_
  refine RH.val 4 rfl krX krX krX krX (Wanted.free rfl) (V.load rfl on24 rfl pickX rfl) rfl ?_
  refine RH.val 5 rfl krX krX krX krX (Wanted.free rfl) (V.move rfl rfl) rfl ?_
  refine RH.val 6 rfl krX krX krX krX (Wanted.free rfl) (V.nilCheck rfl rfl) rfl ?_
  refine RH.val 7 rfl krX krX krX krX (Wanted.free rfl) (V.fieldAddr rfl rfl fo94_0) rfl ?_
  refine RH.val 8 rfl krX krX krX krX (Wanted.free rfl) (V.fieldAddr rfl rfl fo26_0) rfl ?_
  refine RH.val 9 rfl krX krX krX krX (Wanted.free rfl) (V.load rfl on3 rfl pickX rfl) rfl ?_
  refine RH.val 10 rfl krX krX krX krX (Wanted.free rfl) (V.indexBuf (j := p.id.toNat) rfl el24.slice rfl rfl pickX (by first | rfl | omega) (by rw [List.length_replicate]; omega)) rfl ?_
  refine RH.one (i := 11) krX ?_
  refine RHone.eff rfl (Wanted.free rfl) (E.storeBuf [vB true] rfl sz4 rfl rfl rfl pickX (by rw [List.length_replicate]; omega) (fun _ _ _ => ⟨rfl, trivial⟩)) rfl ?_
  rintro _ _ rfl
  refine ⟨.inl krX, ?_⟩
  refine RH.done krX ?_
  refine SG.seq ?_
  refine SG.seq ?_
  refine SG.buf (T := RMsg) (a := oa) pickX fun hol _ _ => ?_
  subst hol
  refine SG.region ?_
  refine RL.val (Wanted.free rfl) (V.move rfl rfl) rfl ?_
  refine RL.val (Wanted.free rfl) (V.nilCheck rfl rfl) rfl ?_
  refine RL.val (Wanted.free rfl) (V.fieldAddr rfl rfl fo94_0) rfl ?_
  refine RL.val (Wanted.free rfl) (V.fieldAddr rfl rfl fo26_1) rfl ?_
  refine RL.val (Wanted.free rfl) (V.load rfl on3 rfl pickX rfl) rfl ?_
  refine RL.val (Wanted.free rfl) (V.move rfl rfl) rfl ?_
  refine RL.nil ?_
  refine SG.block ?_
  refine SG.weaken (SG.loop2 (fun m al M => ∃ (i : Nat) (a5 : Option Addr) (c5 : Nat), i ≤ p.nodes.toNat ∧ m = p.nodes.toNat - i ∧ al = [(2, ptr b2 0), (4, ptr b7 0), (59, vI p.nodes), (60, vI i)] ∧ M = Blk b7 94 (nv (campQ p) (.slice la p.log.length lc) (.slice (some ⟨b31, 0, none⟩) p.nodes.toNat p.nodes.toNat) (.slice none 0 0) (.slice a5 (othersN p (campM p) i).length c5)) :: Buf RMsg 50 a5 (othersN p (campM p) i).length c5 (othersN p (campM p) i) :: Buf RSlot 53 la p.log.length lc p.log :: Buf RB 4 (some ⟨b31, 0, none⟩) p.nodes.toNat p.nodes.toNat (campQ p).votes :: Blk b2 26 [.int .i64 0, .int .i64 0, .int .i64 0, .int .i64 0, .int .i64 0, .int .i64 0, .slice none 0 0, .slice none 0 0, .slice none 0 0] :: L) (m0 := _) ⟨0, oa, oc, by omega, rfl, rfl, rfl⟩ ?_) ?_ ?_
  rotate_left
  ·
   repeat (first | exact EnvLe.nil _ | refine EnvLe.cons rfl ?_)
  ·
   exact entX
  rintro _ _ _ ⟨i, a5, c5, hi, rfl, rfl, rfl⟩ ih0
  refine SG.seq ?_
  have hol := othersN_len p (campM p) i
  have hcq : (campQ p).id = p.id := rfl
  refine SG.region ?_
  refine RL.cmp (Wanted.free rfl) (V.bin rfl rfl rfl B.lss) rfl (fun h35 => ?_) (fun h35 => ?_)
  ·
   refine RL.nil ?_
   refine SG.seq ?_
   refine SG.cond_true rfl ?_
   refine SG.skip ?_
   refine SG.seq ?_
   refine SG.block ?_
   refine SG.seq ?_
   refine SG.region ?_
   refine RL.val (Wanted.free rfl) (V.move rfl rfl) rfl ?_
   refine RL.val (Wanted.free rfl) (V.assign rfl rfl) rfl ?_
   refine RL.nil ?_
   refine SG.seq ?_
   refine SG.region ?_
   refine RL.val (Wanted.free rfl) (V.move rfl rfl) rfl ?_
   refine RL.val (Wanted.free rfl) (V.move rfl rfl) rfl ?_
   refine RL.val (Wanted.free rfl) (V.nilCheck rfl rfl) rfl ?_
   refine RL.val (Wanted.free rfl) (V.fieldAddr rfl rfl fo94_0) rfl ?_
   refine RL.val (Wanted.free rfl) (V.fieldAddr rfl rfl fo26_0) rfl ?_
   refine RL.val (Wanted.free rfl) (V.load rfl on3 rfl pickX rfl) rfl ?_
   refine RL.cmp (Wanted.free rfl) (V.bin rfl rfl rfl B.neq) rfl (fun h44 => ?_) (fun h44 => ?_)
   ·
    refine RL.nil ?_
    refine SG.cond_true rfl ?_
    refine SG.drawN 18 18 (Ex (fun (x : Value) => [Blk b7 94 (nv (campQ p) (.slice la p.log.length lc) (.slice (some ⟨b31, 0, none⟩) p.nodes.toNat p.nodes.toNat) (.slice none 0 0) x)]) :: Buf RSlot 53 la p.log.length lc p.log :: L) wide rfl rfl (by first | (refine Ex.keep (.slice a5 (othersN p (campM p) i).length c5) ?_; (· repeat (first | exact Ent.refl _ | (apply Ent.cons; (· repeat (first | exact Pick.here | (refine Pick.sl ?_; (· repeat (first | exact List.Mem.head _ | assumption | apply List.Mem.tail))) | apply Pick.there))) | (refine Ent.trans (Ent.drop _ _) ?_)))) | (refine Ex.keep (.slice a87 ((othersN p (campM p) i).length + 1) c87) ?_; (· repeat (first | exact Ent.refl _ | (apply Ent.cons; (· repeat (first | exact Pick.here | (refine Pick.sl ?_; (· repeat (first | exact List.Mem.head _ | assumption | apply List.Mem.tail))) | apply Pick.there))) | (refine Ent.trans (Ent.drop _ _) ?_))))) ?_
    refine RH.val 0 rfl krX krX krX krX (Wanted.free rfl) (V.move rfl rfl) rfl ?_
    refine RH.val 1 rfl krX krX krX krX (Wanted.free rfl) (V.move rfl rfl) rfl ?_
    refine RH.val 2 rfl krX krX krX krX (Wanted.free rfl) (V.move rfl rfl) rfl ?_
    refine RH.val 3 rfl krX krX krX krX (Wanted.free rfl) (V.nilCheck rfl rfl) rfl ?_
    refine RH.val 4 rfl krX krX krX krX (Wanted.free rfl) (V.fieldAddr rfl rfl fo94_0) rfl ?_
    refine RH.val 5 rfl krX krX krX krX (Wanted.free rfl) (V.fieldAddr rfl rfl fo26_6) rfl ?_
    refine RH.val 6 rfl krX krX krX krX (Wanted.free rfl) (V.openEx Pick.here fun x => V.load rfl on23 rfl Pick.here rfl) rfl ?_
    refine RH.val 7 rfl krX krX krX krX (Wanted.free rfl) (V.len rfl rfl el23.under rfl) rfl ?_
    refine RH.val 8 rfl krX krX krX krX (Wanted.free rfl) (V.move rfl rfl) rfl ?_
    refine RH.val 9 rfl krX krX krX krX (Wanted.free rfl) (V.move rfl rfl) rfl ?_
    refine RH.val 10 rfl krX krX krX krX (Wanted.free rfl) (V.nilCheck rfl rfl) rfl ?_
    refine RH.val 11 rfl krX krX krX krX (Wanted.free rfl) (V.fieldAddr rfl rfl fo94_0) rfl ?_
    refine RH.val 12 rfl krX krX krX krX (Wanted.free rfl) (V.fieldAddr rfl rfl fo26_6) rfl ?_
    refine RH.val 13 rfl krX krX krX krX (Wanted.free rfl) (V.openEx Pick.here fun x => V.load rfl on23 rfl Pick.here rfl) rfl ?_
    refine RH.val 14 rfl krX krX krX krX (Wanted.free rfl) (V.len rfl rfl el23.under rfl) rfl ?_
    refine RH.one (i := 15) krX ?_
    refine RHone.eff rfl (Wanted.free rfl) (E.call rfl go59 rfl (term_ok (p := campQ p) (i := (p.log.length : Int)) pickX pickX (by omega) (by show (p.log.length : Int) ≤ p.log.length; omega))) rfl ?_
    rintro _ _ ⟨rfl, rfl⟩
    refine ⟨.inr (by first | (refine Ex.keep (.slice a5 (othersN p (campM p) i).length c5) ?_; (· repeat (first | exact Ent.refl _ | (apply Ent.cons; (· repeat (first | exact Pick.here | (refine Pick.sl ?_; (· repeat (first | exact List.Mem.head _ | assumption | apply List.Mem.tail))) | apply Pick.there))) | (refine Ent.trans (Ent.drop _ _) ?_)))) | (refine Ex.keep (.slice a87 ((othersN p (campM p) i).length + 1) c87) ?_; (· repeat (first | exact Ent.refl _ | (apply Ent.cons; (· repeat (first | exact Pick.here | (refine Pick.sl ?_; (· repeat (first | exact List.Mem.head _ | assumption | apply List.Mem.tail))) | apply Pick.there))) | (refine Ent.trans (Ent.drop _ _) ?_))))), ?_⟩
    refine RH.val 16 rfl krX krX krX krX (Wanted.free rfl) (V.buildS [(0, _), (2, _), (4, _), (5, _)] rfl bs50 (by exact ⟨rfl, ⟨_, rfl, rfl⟩, ⟨rfl, ⟨_, rfl, rfl⟩, ⟨rfl, ⟨_, rfl, rfl⟩, ⟨rfl, ⟨_, rfl, rfl⟩, trivial⟩⟩⟩⟩) rfl) rfl ?_
    refine RH.ent (Sl.nil (T := RSlot)) ?_
    refine RH.ent (RMsg.mk (m := ⟨1, 0, i, 0, p.log.length, lastT p.log, 0, [], false⟩) memX) ?_
    refine RH.one (i := 17) krX ?_
    refine RHone.eff rfl (Wanted.free rfl) (E.call rfl go58 rfl (send_ok (p := campQ p) (m := ⟨1, 0, i, 0, p.log.length, lastT p.log, 0, [], false⟩) (by repeat (first | exact Ent.refl _ | (apply Ent.cons; (· repeat (first | exact Pick.here | (refine Pick.sl ?_; (· repeat (first | exact List.Mem.head _ | assumption | apply List.Mem.tail))) | apply Pick.there))) | (refine Ent.trans (Ent.drop _ _) ?_))) memX (by omega))) rfl ?_
    rintro _ _ ⟨a87, c87, rfl, rfl⟩
    refine ⟨.inr (by first | (refine Ex.keep (.slice a5 (othersN p (campM p) i).length c5) ?_; (· repeat (first | exact Ent.refl _ | (apply Ent.cons; (· repeat (first | exact Pick.here | (refine Pick.sl ?_; (· repeat (first | exact List.Mem.head _ | assumption | apply List.Mem.tail))) | apply Pick.there))) | (refine Ent.trans (Ent.drop _ _) ?_)))) | (refine Ex.keep (.slice a87 ((othersN p (campM p) i).length + 1) c87) ?_; (· repeat (first | exact Ent.refl _ | (apply Ent.cons; (· repeat (first | exact Pick.here | (refine Pick.sl ?_; (· repeat (first | exact List.Mem.head _ | assumption | apply List.Mem.tail))) | apply Pick.there))) | (refine Ent.trans (Ent.drop _ _) ?_))))), ?_⟩
    refine RH.done krX ?_
    refine SG.inBlock ?_
    refine SG.region ?_
    refine RL.val (Wanted.free rfl) (V.bin rfl rfl rfl (B.addI (by omega) (by omega))) rfl ?_
    refine RL.val (Wanted.free rfl) (V.move rfl rfl) rfl ?_
    refine RL.nil ?_
    have hoy := others_yes (p := p) (f := campM p) (i := i) (by omega)
    refine SG.weaken (ih0 _ _ _ ?_ ⟨i + 1, a87, c87, by omega, rfl, rfl, rfl⟩) ?_ ?_
    ·
     omega
    ·
     repeat (first | exact EnvLe.nil _ | refine EnvLe.cons rfl ?_)
    ·
     rw [hoy, List.length_append, List.length_singleton]
     exact entX
   ·
    refine RL.nil ?_
    refine SG.cond_false rfl ?_
    refine SG.skip ?_
    refine SG.inBlock ?_
    refine SG.region ?_
    refine RL.val (Wanted.free rfl) (V.bin rfl rfl rfl (B.addI (by omega) (by omega))) rfl ?_
    refine RL.val (Wanted.free rfl) (V.move rfl rfl) rfl ?_
    refine RL.nil ?_
    have hoy := others_no (p := p) (f := campM p) (i := i) (by omega)
    refine SG.weaken (ih0 _ _ _ ?_ ⟨i + 1, a5, c5, by omega, rfl, rfl, rfl⟩) ?_ ?_
    ·
     omega
    ·
     repeat (first | exact EnvLe.nil _ | refine EnvLe.cons rfl ?_)
    ·
     rw [hoy]
     exact entX
  ·
   refine RL.nil ?_
   refine SG.seq ?_
   refine SG.cond_false rfl ?_
   refine SG.exit rfl ?_
   refine SG.seq ?_
   refine SG.seq ?_
   obtain rfl : i = p.nodes.toNat := by omega
   rw [others_all]
   refine SG.region ?_
   refine RL.val (Wanted.free rfl) (V.move rfl rfl) rfl ?_
   refine RL.val (Wanted.free rfl) (V.nilCheck rfl rfl) rfl ?_
   refine RL.val (Wanted.free rfl) (V.fieldAddr rfl rfl fo94_0) rfl ?_
   refine RL.val (Wanted.free rfl) (V.fieldAddr rfl rfl fo26_1) rfl ?_
   refine RL.val (Wanted.free rfl) (V.load rfl on3 rfl pickX rfl) rfl ?_
   refine RL.cmp (Wanted.free rfl) (V.bin rfl rfl rfl B.eql) rfl (fun h72 => ?_) (fun h72 => ?_)
   ·
    have hcm : (campaign p).1 = leadP (campQ p) := if_pos (show p.nodes = 1 from h72)
    refine RL.ent (Buf.nil (T := RI) (e := 3)) ?_
    refine RL.ent (?_ : Ent _ (Nd b7 (campQ p) (others p (campM p)) :: Blk b2 26 [.int .i64 0, .int .i64 0, .int .i64 0, .int .i64 0, .int .i64 0, .int .i64 0, .slice none 0 0, .slice none 0 0, .slice none 0 0] :: L)) ?_
    ·
     refine Nd.ent (la := la) (ln := p.log.length) (lc := lc) (va := some ⟨b31, 0, none⟩) (vn := p.nodes.toNat) (vc := p.nodes.toNat) (ma := none) (mn := 0) (mc := 0) (oa := a5) (on := (others p (campM p)).length) (oc := c5) ?_
     exact entX
    refine RL.nil ?_
    refine SG.cond_true rfl ?_
    refine SG.region ?_
    refine RL.val (Wanted.free rfl) (V.move rfl rfl) rfl ?_
    refine RL.eff (Wanted.free rfl) (E.call rfl go60 rfl (lead_okw (p := campQ p) pickX (by show 0 ≤ p.nodes; omega) (by show p.nodes ≤ 1000; omega) hi0 hi1 (by show p.log.length ≤ _; omega))) rfl ?_
    rintro _ _ ⟨rfl, rfl⟩
    refine RL.nil ?_
    refine SG.seq ?_
    rw [← hcm]
    generalize hq : (campaign p).1 = q at *
    refine SG.openNd (p := q) pickX fun la ln lc va vn vc ma mn mc oa on oc => ?_
    refine SG.buf (T := RMsg) (a := oa) pickX fun hol _ _ => ?_
    subst hol
    refine SG.publish (T := RSlot) (a := la) pickX ?_
    refine SG.publish (T := RB) (a := va) pickX ?_
    refine SG.publish (T := RI) (a := ma) pickX ?_
    refine SG.ent (RPeer.mk (p := q) memX memX memX) ?_
    refine SG.publish (T := RMsg) (a := oa) pickX ?_
    refine SG.drawP1 10 2 wide rfl rfl rfl pickX ?_
    refine RH.val 0 rfl krX krX krX krX (Wanted.free rfl) (V.move rfl rfl) rfl ?_
    refine RH.val 1 rfl krX krX krX krX (Wanted.free rfl) (V.nilCheck rfl rfl) rfl ?_
    refine RH.val 2 rfl krX krX krX krX (Wanted.free rfl) (V.fieldAddr rfl rfl fo94_0) rfl ?_
    refine RH.val 3 rfl krX krX krX krX (Wanted.free rfl) (V.loadAgg (us := pv q (.slice la ln lc) (.slice va vn vc) (.slice ma mn mc)) rfl ag26 rfl pickX rfl rfl) rfl ?_
    refine RH.val 4 rfl krX krX krX krX (Wanted.free rfl) (V.move rfl rfl) rfl ?_
    refine RH.val 5 rfl krX krX krX krX (Wanted.free rfl) (V.nilCheck rfl rfl) rfl ?_
    refine RH.val 6 rfl krX krX krX krX (Wanted.free rfl) (V.fieldAddr rfl rfl fo94_1) rfl ?_
    refine RH.val 7 rfl krX krX krX krX (Wanted.free rfl) (V.load rfl on35 rfl pickX rfl) rfl ?_
    refine RH.one (i := 8) krX ?_
    refine RHone.eff rfl (Wanted.free rfl) (E.storeWhole rfl rfl rfl (by rfl) sz26 pickX pv_one (by rfl)) rfl ?_
    rintro _ _ rfl
    refine ⟨.inr entX, ?_⟩
    refine RH.val 9 rfl krX krX krX krX (Wanted.free rfl) (V.assign rfl rfl) rfl ?_
    refine RH.done krX ?_
    subst hq
    refine SG.retE (Ret.r2 Try.func16 rfl (.agg rfl ag26 pickX rfl rfl) (.tmp rfl)) ?_ ⟨_, _, _, rfl, rfl⟩
    exact entX
   ·
    have hcm : (campaign p).1 = campQ p := if_neg (show ¬ p.nodes = 1 from h72)
    refine RL.ent (Buf.nil (T := RI) (e := 3)) ?_
    refine RL.ent (?_ : Ent _ (Nd b7 (campQ p) (others p (campM p)) :: Blk b2 26 [.int .i64 0, .int .i64 0, .int .i64 0, .int .i64 0, .int .i64 0, .int .i64 0, .slice none 0 0, .slice none 0 0, .slice none 0 0] :: L)) ?_
    ·
     refine Nd.ent (la := la) (ln := p.log.length) (lc := lc) (va := some ⟨b31, 0, none⟩) (vn := p.nodes.toNat) (vc := p.nodes.toNat) (ma := none) (mn := 0) (mc := 0) (oa := a5) (on := (others p (campM p)).length) (oc := c5) ?_
     exact entX
    refine RL.nil ?_
    refine SG.cond_false rfl ?_
    refine SG.skip ?_
    refine SG.seq ?_
    rw [← hcm]
    generalize hq : (campaign p).1 = q at *
    refine SG.openNd (p := q) pickX fun la ln lc va vn vc ma mn mc oa on oc => ?_
    refine SG.buf (T := RMsg) (a := oa) pickX fun hol _ _ => ?_
    subst hol
    refine SG.publish (T := RSlot) (a := la) pickX ?_
    refine SG.publish (T := RB) (a := va) pickX ?_
    refine SG.publish (T := RI) (a := ma) pickX ?_
    refine SG.ent (RPeer.mk (p := q) memX memX memX) ?_
    refine SG.publish (T := RMsg) (a := oa) pickX ?_
    refine SG.drawP1 10 2 wide rfl rfl rfl pickX ?_
    refine RH.val 0 rfl krX krX krX krX (Wanted.free rfl) (V.move rfl rfl) rfl ?_
    refine RH.val 1 rfl krX krX krX krX (Wanted.free rfl) (V.nilCheck rfl rfl) rfl ?_
    refine RH.val 2 rfl krX krX krX krX (Wanted.free rfl) (V.fieldAddr rfl rfl fo94_0) rfl ?_
    refine RH.val 3 rfl krX krX krX krX (Wanted.free rfl) (V.loadAgg (us := pv q (.slice la ln lc) (.slice va vn vc) (.slice ma mn mc)) rfl ag26 rfl pickX rfl rfl) rfl ?_
    refine RH.val 4 rfl krX krX krX krX (Wanted.free rfl) (V.move rfl rfl) rfl ?_
    refine RH.val 5 rfl krX krX krX krX (Wanted.free rfl) (V.nilCheck rfl rfl) rfl ?_
    refine RH.val 6 rfl krX krX krX krX (Wanted.free rfl) (V.fieldAddr rfl rfl fo94_1) rfl ?_
    refine RH.val 7 rfl krX krX krX krX (Wanted.free rfl) (V.load rfl on35 rfl pickX rfl) rfl ?_
    refine RH.one (i := 8) krX ?_
    refine RHone.eff rfl (Wanted.free rfl) (E.storeWhole rfl rfl rfl (by rfl) sz26 pickX pv_one (by rfl)) rfl ?_
    rintro _ _ rfl
    refine ⟨.inr entX, ?_⟩
    refine RH.val 9 rfl krX krX krX krX (Wanted.free rfl) (V.assign rfl rfl) rfl ?_
    refine RH.done krX ?_
    subst hq
    refine SG.retE (Ret.r2 Try.func16 rfl (.agg rfl ag26 pickX rfl rfl) (.tmp rfl)) ?_ ⟨_, _, _, rfl, rfl⟩
    exact entX
 ·
  refine SG.ent (Blk.cells (cs' := nv { p with term := p.term + 1 } (.slice la p.log.length lc) (.slice va vn vc) (.slice ma mn mc) (.slice oa on oc)) rfl) ?_
  refine SG.drawN 31 18 (Ex (fun (x : Value × Value × Value × Value) => [Blk b7 94 [vI p.id, vI p.nodes, vI (p.term + 1), x.1, x.2.1, vI p.commit, .slice la p.log.length lc, x.2.2.1, x.2.2.2, .slice oa on oc]]) :: L) wide rfl rfl (by first | (refine Ex.keep (vI p.voted, vI p.role, .slice va vn vc, .slice ma mn mc) ?_; (· repeat (first | exact Ent.refl _ | (apply Ent.cons; (· repeat (first | exact Pick.here | (refine Pick.sl ?_; (· repeat (first | exact List.Mem.head _ | assumption | apply List.Mem.tail))) | apply Pick.there))) | (refine Ent.trans (Ent.drop _ _) ?_)))) | (refine Ex.keep (vI p.id, vI p.role, .slice va vn vc, .slice ma mn mc) ?_; (· repeat (first | exact Ent.refl _ | (apply Ent.cons; (· repeat (first | exact Pick.here | (refine Pick.sl ?_; (· repeat (first | exact List.Mem.head _ | assumption | apply List.Mem.tail))) | apply Pick.there))) | (refine Ent.trans (Ent.drop _ _) ?_)))) | (refine Ex.keep (vI p.id, vI 1, .slice va vn vc, .slice ma mn mc) ?_; (· repeat (first | exact Ent.refl _ | (apply Ent.cons; (· repeat (first | exact Pick.here | (refine Pick.sl ?_; (· repeat (first | exact List.Mem.head _ | assumption | apply List.Mem.tail))) | apply Pick.there))) | (refine Ent.trans (Ent.drop _ _) ?_)))) | (refine Ex.keep (vI p.id, vI 1, .slice va vn vc, .slice none 0 0) ?_; (· repeat (first | exact Ent.refl _ | (apply Ent.cons; (· repeat (first | exact Pick.here | (refine Pick.sl ?_; (· repeat (first | exact List.Mem.head _ | assumption | apply List.Mem.tail))) | apply Pick.there))) | (refine Ent.trans (Ent.drop _ _) ?_))))) ?_
  refine RH.val 0 rfl krX krX krX krX (Wanted.free rfl) (V.move rfl rfl) rfl ?_
  refine RH.pure 1 rfl krX krX krX krX (Wanted.free rfl) (V.move rfl rfl) rfl ?_
  refine RH.pure 2 rfl krX krX krX krX (Wanted.free rfl) (V.move rfl rfl) rfl ?_
  refine RH.pure 3 rfl krX krX krX krX (Wanted.free rfl) (V.move rfl rfl) rfl ?_
  refine RH.val 4 rfl krX krX krX krX (Wanted.free rfl) (V.move rfl rfl) rfl ?_
  refine RH.val 5 rfl krX krX krX krX (Wanted.free rfl) (V.nilCheck rfl rfl) rfl ?_
  refine RH.val 6 rfl krX krX krX krX (Wanted.free rfl) (V.fieldAddr rfl rfl fo94_0) rfl ?_
  refine RH.val 7 rfl krX krX krX krX (Wanted.free rfl) (V.fieldAddr rfl rfl fo26_0) rfl ?_
  refine RH.val 8 rfl krX krX krX krX (Wanted.free rfl) (V.openEx Pick.here fun x => V.load rfl on3 rfl Pick.here rfl) rfl ?_
  refine RH.pure 9 rfl krX krX krX krX (Wanted.free rfl) (V.move rfl rfl) rfl ?_
  refine RH.pure 10 rfl krX krX krX krX (Wanted.free rfl) (V.nilCheck rfl rfl) rfl ?_
  refine RH.pure 11 rfl krX krX krX krX (Wanted.free rfl) (V.fieldAddr rfl rfl fo94_0) rfl ?_
  refine RH.pure 12 rfl krX krX krX krX (Wanted.free rfl) (V.fieldAddr rfl rfl fo26_1) rfl ?_
  refine RH.val 13 rfl krX krX krX krX (Wanted.free rfl) (V.openEx Pick.here fun x => V.load rfl on3 rfl Pick.here rfl) rfl ?_
  refine RH.pure 15 rfl krX krX krX krX (Wanted.free rfl) (V.nilCheck rfl rfl) rfl ?_
  refine RH.pure 16 rfl krX krX krX krX (Wanted.free rfl) (V.fieldAddr rfl rfl fo94_0) rfl ?_
  refine RH.val 17 rfl krX krX krX krX (Wanted.free rfl) (V.fieldAddr rfl rfl fo26_3) rfl ?_
  refine RH.two (i := 14) (j := 18) krX ?_ ?_
  ·
   refine RHone.eff rfl (Wanted.free rfl) (E.make (T := RB) (m := p.nodes.toNat) (z0 := .bool false) (x0 := false) rfl el24 ze4 rfl rfl (by omega) (by omega) (by omega) (fun _ => ⟨rfl, trivial⟩)) rfl ?_
   rintro _ _ ⟨b31, rfl, rfl⟩
   refine ⟨.inr (by first | (refine Ex.keep (vI p.voted, vI p.role, .slice va vn vc, .slice ma mn mc) ?_; (· repeat (first | exact Ent.refl _ | (apply Ent.cons; (· repeat (first | exact Pick.here | (refine Pick.sl ?_; (· repeat (first | exact List.Mem.head _ | assumption | apply List.Mem.tail))) | apply Pick.there))) | (refine Ent.trans (Ent.drop _ _) ?_)))) | (refine Ex.keep (vI p.id, vI p.role, .slice va vn vc, .slice ma mn mc) ?_; (· repeat (first | exact Ent.refl _ | (apply Ent.cons; (· repeat (first | exact Pick.here | (refine Pick.sl ?_; (· repeat (first | exact List.Mem.head _ | assumption | apply List.Mem.tail))) | apply Pick.there))) | (refine Ent.trans (Ent.drop _ _) ?_)))) | (refine Ex.keep (vI p.id, vI 1, .slice va vn vc, .slice ma mn mc) ?_; (· repeat (first | exact Ent.refl _ | (apply Ent.cons; (· repeat (first | exact Pick.here | (refine Pick.sl ?_; (· repeat (first | exact List.Mem.head _ | assumption | apply List.Mem.tail))) | apply Pick.there))) | (refine Ent.trans (Ent.drop _ _) ?_)))) | (refine Ex.keep (vI p.id, vI 1, .slice va vn vc, .slice none 0 0) ?_; (· repeat (first | exact Ent.refl _ | (apply Ent.cons; (· repeat (first | exact Pick.here | (refine Pick.sl ?_; (· repeat (first | exact List.Mem.head _ | assumption | apply List.Mem.tail))) | apply Pick.there))) | (refine Ent.trans (Ent.drop _ _) ?_))))), ?_⟩
   refine RH.one (i := 18) krX ?_
   refine RHone.eff rfl (Wanted.free rfl) (E.store1 rfl rfl rfl rfl rfl sz3 pickX rfl) rfl ?_
   rintro _ _ rfl
   refine ⟨.inl krX, ?_⟩
   refine RH.pure 19 rfl krX krX krX krX (Wanted.free rfl) (V.nilCheck rfl rfl) rfl ?_
   refine RH.pure 20 rfl krX krX krX krX (Wanted.free rfl) (V.fieldAddr rfl rfl fo94_0) rfl ?_
   refine RH.pure 21 rfl krX krX krX krX (Wanted.free rfl) (V.fieldAddr rfl rfl fo26_4) rfl ?_
   refine RH.one (i := 22) krX ?_
   refine RHone.eff rfl (Wanted.free rfl) (E.store1 rfl rfl rfl rfl rfl sz3 pickX rfl) rfl ?_
   rintro _ _ rfl
   refine ⟨.inl krX, ?_⟩
   refine RH.pure 23 rfl krX krX krX krX (Wanted.free rfl) (V.nilCheck rfl rfl) rfl ?_
   refine RH.pure 24 rfl krX krX krX krX (Wanted.free rfl) (V.fieldAddr rfl rfl fo94_0) rfl ?_
   refine RH.pure 25 rfl krX krX krX krX (Wanted.free rfl) (V.fieldAddr rfl rfl fo26_8) rfl ?_
   refine RH.one (i := 26) krX ?_
   refine RHone.eff rfl (Wanted.free rfl) (E.store1 rfl rfl rfl rfl rfl sz22 pickX rfl) rfl ?_
   rintro _ _ rfl
   refine ⟨.inl krX, ?_⟩
   refine RH.pure 27 rfl krX krX krX krX (Wanted.free rfl) (V.nilCheck rfl rfl) rfl ?_
   refine RH.pure 28 rfl krX krX krX krX (Wanted.free rfl) (V.fieldAddr rfl rfl fo94_0) rfl ?_
   refine RH.pure 29 rfl krX krX krX krX (Wanted.free rfl) (V.fieldAddr rfl rfl fo26_7) rfl ?_
   refine RH.one (i := 30) krX ?_
   refine RHone.eff rfl (Wanted.free rfl) (E.store1 rfl rfl rfl rfl rfl sz24 pickX rfl) rfl ?_
   rintro _ _ rfl
   refine ⟨.inl krX, ?_⟩
   refine RH.done krX ?_
   refine SG.weaken (rest b31 trivial) ?_ ?_
   ·
    repeat (first | exact EnvLe.nil _ | refine EnvLe.cons rfl ?_)
   ·
    exact entX
  ·
   refine RHone.eff rfl (Wanted.free rfl) (E.store1 rfl rfl rfl rfl rfl sz3 pickX rfl) rfl ?_
   rintro _ _ rfl
   refine ⟨.inl krX, ?_⟩
   refine RH.pure 19 rfl krX krX krX krX (Wanted.free rfl) (V.nilCheck rfl rfl) rfl ?_
   refine RH.pure 20 rfl krX krX krX krX (Wanted.free rfl) (V.fieldAddr rfl rfl fo94_0) rfl ?_
   refine RH.pure 21 rfl krX krX krX krX (Wanted.free rfl) (V.fieldAddr rfl rfl fo26_4) rfl ?_
   refine RH.two (i := 14) (j := 22) krX ?_ ?_
   ·
    refine RHone.eff rfl (Wanted.free rfl) (E.make (T := RB) (m := p.nodes.toNat) (z0 := .bool false) (x0 := false) rfl el24 ze4 rfl rfl (by omega) (by omega) (by omega) (fun _ => ⟨rfl, trivial⟩)) rfl ?_
    rintro _ _ ⟨b31, rfl, rfl⟩
    refine ⟨.inl krX, ?_⟩
    refine RH.one (i := 22) krX ?_
    refine RHone.eff rfl (Wanted.free rfl) (E.store1 rfl rfl rfl rfl rfl sz3 pickX rfl) rfl ?_
    rintro _ _ rfl
    refine ⟨.inl krX, ?_⟩
    refine RH.pure 23 rfl krX krX krX krX (Wanted.free rfl) (V.nilCheck rfl rfl) rfl ?_
    refine RH.pure 24 rfl krX krX krX krX (Wanted.free rfl) (V.fieldAddr rfl rfl fo94_0) rfl ?_
    refine RH.pure 25 rfl krX krX krX krX (Wanted.free rfl) (V.fieldAddr rfl rfl fo26_8) rfl ?_
    refine RH.one (i := 26) krX ?_
    refine RHone.eff rfl (Wanted.free rfl) (E.store1 rfl rfl rfl rfl rfl sz22 pickX rfl) rfl ?_
    rintro _ _ rfl
    refine ⟨.inl krX, ?_⟩
    refine RH.pure 27 rfl krX krX krX krX (Wanted.free rfl) (V.nilCheck rfl rfl) rfl ?_
    refine RH.pure 28 rfl krX krX krX krX (Wanted.free rfl) (V.fieldAddr rfl rfl fo94_0) rfl ?_
    refine RH.pure 29 rfl krX krX krX krX (Wanted.free rfl) (V.fieldAddr rfl rfl fo26_7) rfl ?_
    refine RH.one (i := 30) krX ?_
    refine RHone.eff rfl (Wanted.free rfl) (E.store1 rfl rfl rfl rfl rfl sz24 pickX rfl) rfl ?_
    rintro _ _ rfl
    refine ⟨.inl krX, ?_⟩
    refine RH.done krX ?_
    refine SG.weaken (rest b31 trivial) ?_ ?_
    ·
     repeat (first | exact EnvLe.nil _ | refine EnvLe.cons rfl ?_)
    ·
     exact entX
   ·
    refine RHone.eff rfl (Wanted.free rfl) (E.store1 rfl rfl rfl rfl rfl sz3 pickX rfl) rfl ?_
    rintro _ _ rfl
    refine ⟨.inl krX, ?_⟩
    refine RH.pure 23 rfl krX krX krX krX (Wanted.free rfl) (V.nilCheck rfl rfl) rfl ?_
    refine RH.pure 24 rfl krX krX krX krX (Wanted.free rfl) (V.fieldAddr rfl rfl fo94_0) rfl ?_
    refine RH.pure 25 rfl krX krX krX krX (Wanted.free rfl) (V.fieldAddr rfl rfl fo26_8) rfl ?_
    refine RH.two (i := 14) (j := 26) krX ?_ ?_
    ·
     refine RHone.eff rfl (Wanted.free rfl) (E.make (T := RB) (m := p.nodes.toNat) (z0 := .bool false) (x0 := false) rfl el24 ze4 rfl rfl (by omega) (by omega) (by omega) (fun _ => ⟨rfl, trivial⟩)) rfl ?_
     rintro _ _ ⟨b31, rfl, rfl⟩
     refine ⟨.inl krX, ?_⟩
     refine RH.one (i := 26) krX ?_
     refine RHone.eff rfl (Wanted.free rfl) (E.store1 rfl rfl rfl rfl rfl sz22 pickX rfl) rfl ?_
     rintro _ _ rfl
     refine ⟨.inl krX, ?_⟩
     refine RH.pure 27 rfl krX krX krX krX (Wanted.free rfl) (V.nilCheck rfl rfl) rfl ?_
     refine RH.pure 28 rfl krX krX krX krX (Wanted.free rfl) (V.fieldAddr rfl rfl fo94_0) rfl ?_
     refine RH.pure 29 rfl krX krX krX krX (Wanted.free rfl) (V.fieldAddr rfl rfl fo26_7) rfl ?_
     refine RH.one (i := 30) krX ?_
     refine RHone.eff rfl (Wanted.free rfl) (E.store1 rfl rfl rfl rfl rfl sz24 pickX rfl) rfl ?_
     rintro _ _ rfl
     refine ⟨.inl krX, ?_⟩
     refine RH.done krX ?_
     refine SG.weaken (rest b31 trivial) ?_ ?_
     ·
      repeat (first | exact EnvLe.nil _ | refine EnvLe.cons rfl ?_)
     ·
      exact entX
    ·
     refine RHone.eff rfl (Wanted.free rfl) (E.store1 rfl rfl rfl rfl rfl sz22 pickX rfl) rfl ?_
     rintro _ _ rfl
     refine ⟨.inl krX, ?_⟩
     refine RH.one (i := 14) krX ?_
     refine RHone.eff rfl (Wanted.free rfl) (E.make (T := RB) (m := p.nodes.toNat) (z0 := .bool false) (x0 := false) rfl el24 ze4 rfl rfl (by omega) (by omega) (by omega) (fun _ => ⟨rfl, trivial⟩)) rfl ?_
     rintro _ _ ⟨b31, rfl, rfl⟩
     refine ⟨.inl krX, ?_⟩
     refine RH.pure 27 rfl krX krX krX krX (Wanted.free rfl) (V.nilCheck rfl rfl) rfl ?_
     refine RH.pure 28 rfl krX krX krX krX (Wanted.free rfl) (V.fieldAddr rfl rfl fo94_0) rfl ?_
     refine RH.pure 29 rfl krX krX krX krX (Wanted.free rfl) (V.fieldAddr rfl rfl fo26_7) rfl ?_
     refine RH.one (i := 30) krX ?_
     refine RHone.eff rfl (Wanted.free rfl) (E.store1 rfl rfl rfl rfl rfl sz24 pickX rfl) rfl ?_
     rintro _ _ rfl
     refine ⟨.inl krX, ?_⟩
     refine RH.done krX ?_
     refine SG.weaken (rest b31 trivial) ?_ ?_
     ·
      repeat (first | exact EnvLe.nil _ | refine EnvLe.cons rfl ?_)
     ·
      exact entX

end Go.Proofs.Ytilcnglcflohoaa
