/- Propose. -/
import Derived.Test.YtilcnglcflohoaaCamp
namespace Go.Proofs.Ytilcnglcflohoaa
open Go.Wk Go.Rp

def propV (p : Peer) (data : List UInt8) : Peer × Int := if p.role ≠ 2 then (zP, 11) else if 4000 < data.length then (zP, 2) else (propose p data, 0)
theorem slot_snoc {p : Peer} {data : List UInt8} {L : List Assn} {e : Nat} {a : Option Addr} {n c : Nat} (h : p.log.length + 1 = n) : Ent (Buf RSlot e a (p.log.length + 1) c (p.log ++ [⟨p.term, data⟩]) :: L) (Buf RSlot e a n c (propQ p data).log :: L) := by subst h; exact Ent.refl _
set_option maxRecDepth 100000 in
set_option maxHeartbeats 1000000 in
theorem pProp_ok {κ : World} {L : List Assn} {us : List Value} {p : Peer} (hm : Rd RPeer us p ∈ L) (hb1 : p.log.length ≤ 900000) (hb2 : p.votes.length ≤ 1000) (hb3 : p.mtch.length ≤ 1000) (hn1 : 1 ≤ p.nodes) (hn5 : p.nodes ≤ 5) (hi0 : 0 ≤ p.id) (hi1 : p.id < p.nodes) (_ : 0 ≤ p.term) (_ : p.term ≤ 1000000) {data : List UInt8} (hr : p.role = 2 → p.mtch.length = p.nodes.toNat) (hc0 : 0 ≤ p.commit) :
    Ctr Try.prog 18 #[.agg us.toArray, vS data] κ L (fun v M => ∃ us', v = .tuple #[.agg us'.toArray, vI (propV p data).2] ∧ M = Rd RPeer us' (propV p data).1 :: L) := by
 refine Ctr.enter (vs := [.agg us.toArray, vS data]) (m := 60) Try.func18 rfl rfl rfl ?_
 refine SG.openPeer (Pick.rd hm) fun ka kn kc wa wn wc xa xn xc hus => ?_
 subst hus
 refine SG.seq ?_
 refine SG.region ?_
 refine RL.eff (Wanted.free rfl) (E.box _ rfl rfl rfl) rfl ?_
 rintro _ _ ⟨b2, rfl, rfl⟩
 refine RL.eff (Wanted.free rfl) (E.alloc rfl ze26) rfl ?_
 rintro _ _ ⟨b4, rfl, rfl⟩
 refine RL.val (Wanted.free rfl) (V.assign rfl rfl) rfl ?_
 refine RL.nil ?_
 refine SG.seq ?_
 refine SG.block ?_
 refine SG.seq ?_
 refine SG.region ?_
 refine RL.val (Wanted.free rfl) (V.fieldAddr rfl rfl fo26_4) rfl ?_
 refine RL.val (Wanted.free rfl) (V.load rfl on3 rfl pickX rfl) rfl ?_
 refine RL.cmp (Wanted.free rfl) (V.bin rfl rfl rfl B.neq) rfl (fun h6 => ?_) (fun h6 => ?_)
 ·
  refine RL.val (Wanted.free rfl) (V.assign rfl rfl) rfl ?_
  refine RL.nil ?_
  refine SG.cond_true rfl ?_
  refine SG.seq ?_
  refine SG.region ?_
  refine RL.val (Wanted.free rfl) (V.buildS [] rfl bs26 (by exact trivial) rfl) rfl ?_
  refine RL.eff (Wanted.free rfl) (E.storeWhole rfl rfl rfl (by rfl) sz26 pickX (by first | (simp [Value.oneCell']; done) | (simp [setAt, Value.oneCell']; done)) (by rfl)) rfl ?_
  rintro _ _ rfl
  refine RL.val (Wanted.free rfl) (V.assign rfl rfl) rfl ?_
  refine RL.nil ?_
  refine SG.ent (RPeer.nil (p := zP) rfl rfl rfl) ?_
  refine SG.retE (Ret.r2 Try.func18 rfl (.agg rfl ag26 pickX rfl rfl) (.tmp rfl)) ?_ ⟨_, by rw [propV, if_pos (by omega)], by rw [propV, if_pos (by omega)]⟩
  exact entX
 ·
  refine RL.val (Wanted.free rfl) (V.assign rfl rfl) rfl ?_
  refine RL.nil ?_
  refine SG.cond_false rfl ?_
  refine SG.seq ?_
  refine SG.region ?_
  refine RL.val (Wanted.free rfl) (V.move rfl rfl) rfl ?_
  refine RL.val (Wanted.free rfl) (V.lenS rfl rfl us9 rfl) rfl ?_
  refine RL.cmp (Wanted.free rfl) (V.bin rfl rfl rfl B.gtr) rfl (fun h14 => ?_) (fun h14 => ?_)
  ·
   refine RL.val (Wanted.free rfl) (V.assign rfl rfl) rfl ?_
   refine RL.nil ?_
   refine SG.cond_true rfl ?_
   refine SG.seq ?_
   refine SG.region ?_
   refine RL.val (Wanted.free rfl) (V.buildS [] rfl bs26 (by exact trivial) rfl) rfl ?_
   refine RL.eff (Wanted.free rfl) (E.storeWhole rfl rfl rfl (by rfl) sz26 pickX (by first | (simp [Value.oneCell']; done) | (simp [setAt, Value.oneCell']; done)) (by rfl)) rfl ?_
   rintro _ _ rfl
   refine RL.val (Wanted.free rfl) (V.assign rfl rfl) rfl ?_
   refine RL.nil ?_
   refine SG.ent (RPeer.nil (p := zP) rfl rfl rfl) ?_
   refine SG.retE (Ret.r2 Try.func18 rfl (.agg rfl ag26 pickX rfl rfl) (.tmp rfl)) ?_ ⟨_, by rw [propV, if_neg (by omega), if_pos (by omega)], by rw [propV, if_neg (by omega), if_pos (by omega)]⟩
   exact entX
  ·
   refine RL.val (Wanted.free rfl) (V.assign rfl rfl) rfl ?_
   refine RL.nil ?_
   refine SG.cond_false rfl ?_
   refine SG.skip ?_
   refine SG.inBlock ?_
   refine SG.seq ?_
   refine SG.region ?_
   refine RL.val (Wanted.free rfl) (V.loadAgg (us := pv p (.slice ka kn kc) (.slice wa wn wc) (.slice xa xn xc)) rfl ag26 rfl pickX rfl rfl) rfl ?_
   refine RL.eff (Wanted.free rfl) (E.call rfl go57 rfl (copied_ok (us := pv p (.slice ka kn kc) (.slice wa wn wc) (.slice xa xn xc)) (p := p) memX (by omega) (by omega) (by omega))) rfl ?_
   rintro _ _ ⟨b18, rfl, rfl⟩
   refine RL.val (Wanted.free rfl) (V.assign rfl rfl) rfl ?_
   refine RL.nil ?_
   refine SG.seq ?_
   have hr2 := hr (by omega)
   refine SG.openNd Pick.here fun la ln lc va vn vc ma mn mc oa on oc => ?_
   refine SG.buf (T := RSlot) (a := la) pickX fun hll _ _ => ?_
   refine SG.buf (T := RI) (a := ma) pickX fun hml _ _ => ?_
   subst hll; subst hml
   refine SG.drawN 19 18 (Blk b18 94 (nv p (.slice la p.log.length lc) (.slice va vn vc) (.slice ma p.mtch.length mc) (.slice oa on oc)) :: L) wide rfl rfl (by repeat (first | exact Ent.refl _ | (apply Ent.cons; (· repeat (first | exact Pick.here | (refine Pick.sl ?_; (· repeat (first | exact List.Mem.head _ | assumption | apply List.Mem.tail))) | apply Pick.there))) | (refine Ent.trans (Ent.drop _ _) ?_))) ?_
   refine RH.val 0 rfl krX krX krX krX (Wanted.free rfl) (V.move rfl rfl) rfl ?_
   refine RH.val 1 rfl krX krX krX krX (Wanted.free rfl) (V.move rfl rfl) rfl ?_
   refine RH.val 2 rfl krX krX krX krX (Wanted.free rfl) (V.nilCheck rfl rfl) rfl ?_
   refine RH.val 3 rfl krX krX krX krX (Wanted.free rfl) (V.fieldAddr rfl rfl fo94_0) rfl ?_
   refine RH.val 4 rfl krX krX krX krX (Wanted.free rfl) (V.fieldAddr rfl rfl fo26_6) rfl ?_
   refine RH.val 5 rfl krX krX krX krX (Wanted.free rfl) (V.load rfl on23 rfl pickX rfl) rfl ?_
   refine RH.val 6 rfl krX krX krX krX (Wanted.free rfl) (V.move rfl rfl) rfl ?_
   refine RH.val 7 rfl krX krX krX krX (Wanted.free rfl) (V.nilCheck rfl rfl) rfl ?_
   refine RH.val 8 rfl krX krX krX krX (Wanted.free rfl) (V.fieldAddr rfl rfl fo94_0) rfl ?_
   refine RH.val 9 rfl krX krX krX krX (Wanted.free rfl) (V.fieldAddr rfl rfl fo26_2) rfl ?_
   refine RH.val 10 rfl krX krX krX krX (Wanted.free rfl) (V.load rfl on3 rfl pickX rfl) rfl ?_
   refine RH.val 11 rfl krX krX krX krX (Wanted.free rfl) (V.move rfl rfl) rfl ?_
   refine RH.val 12 rfl krX krX krX krX (Wanted.free rfl) (V.buildS [(0, _), (1, _)] rfl bs53 (by exact ⟨rfl, ⟨_, rfl, rfl⟩, ⟨rfl, ⟨_, rfl, rfl⟩, trivial⟩⟩) rfl) rfl ?_
   refine RH.one (i := 13) krX ?_
   refine RHone.eff rfl (Wanted.free rfl) (E.lit1 [vI p.term, vS data] rfl el23.slice ze53 rfl (by decide) (by decide) rfl rfl rfl) rfl ?_
   rintro _ _ ⟨b32, rfl, rfl⟩
   refine ⟨.inr entX, ?_⟩
   refine RH.one (i := 14) krX ?_
   refine RHone.eff rfl (Wanted.free rfl) (E.append (T := RSlot) rfl rfl rfl el23 el23.noInt rfl rfl pickX (Src.litDt (y := ⟨p.term, data⟩) pickX rfl trivial) (by first | omega | (simp; omega)) (by first | omega | (simp; omega))) rfl ?_
   intro _ _ hK37
   try rw [List.nil_append] at hK37
   try rw [Nat.zero_add] at hK37
   obtain ⟨a33, c33, rfl, rfl⟩ := hK37
   refine ⟨.inr entX, ?_⟩
   refine RH.pure 15 rfl krX krX krX krX (Wanted.free rfl) (V.nilCheck rfl rfl) rfl ?_
   refine RH.pure 16 rfl krX krX krX krX (Wanted.free rfl) (V.fieldAddr rfl rfl fo94_0) rfl ?_
   refine RH.val 17 rfl krX krX krX krX (Wanted.free rfl) (V.fieldAddr rfl rfl fo26_6) rfl ?_
   refine RH.one (i := 18) krX ?_
   refine RHone.eff rfl (Wanted.free rfl) (E.store1 rfl rfl rfl rfl rfl sz23 pickX rfl) rfl ?_
   rintro _ _ rfl
   refine ⟨.inl krX, ?_⟩
   refine RH.done krX ?_
   refine SG.seq ?_
   have hcq : (propQ p data).id = p.id := rfl
   refine SG.ent (Blk.cells (cs' := nv (propQ p data) (.slice a33 (p.log.length + 1) c33) (.slice va vn vc) (.slice ma p.mtch.length mc) (.slice oa on oc)) rfl) ?_
   refine SG.drawL 18 17 wide rfl rfl ?_
   refine RH.val 0 rfl krX krX krX krX (Wanted.free rfl) (V.move rfl rfl) rfl ?_
   refine RH.val 1 rfl krX krX krX krX (Wanted.free rfl) (V.nilCheck rfl rfl) rfl ?_
   refine RH.val 2 rfl krX krX krX krX (Wanted.free rfl) (V.fieldAddr rfl rfl fo94_0) rfl ?_
   refine RH.val 3 rfl krX krX krX krX (Wanted.free rfl) (V.fieldAddr rfl rfl fo26_8) rfl ?_
   refine RH.val 4 rfl krX krX krX krX (Wanted.free rfl) (V.load rfl on22 rfl pickX rfl) rfl ?_
   refine RH.val 5 rfl krX krX krX krX (Wanted.free rfl) (V.move rfl rfl) rfl ?_
   refine RH.val 6 rfl krX krX krX krX (Wanted.free rfl) (V.nilCheck rfl rfl) rfl ?_
   refine RH.val 7 rfl krX krX krX krX (Wanted.free rfl) (V.fieldAddr rfl rfl fo94_0) rfl ?_
   refine RH.val 8 rfl krX krX krX krX (Wanted.free rfl) (V.fieldAddr rfl rfl fo26_0) rfl ?_
   refine RH.val 9 rfl krX krX krX krX (Wanted.free rfl) (V.load rfl on3 rfl pickX rfl) rfl ?_
   refine RH.val 10 rfl krX krX krX krX (Wanted.free rfl) (V.move rfl rfl) rfl ?_
   refine RH.val 11 rfl krX krX krX krX (Wanted.free rfl) (V.nilCheck rfl rfl) rfl ?_
   refine RH.val 12 rfl krX krX krX krX (Wanted.free rfl) (V.fieldAddr rfl rfl fo94_0) rfl ?_
   refine RH.val 13 rfl krX krX krX krX (Wanted.free rfl) (V.fieldAddr rfl rfl fo26_6) rfl ?_
   refine RH.val 14 rfl krX krX krX krX (Wanted.free rfl) (V.load rfl on23 rfl pickX rfl) rfl ?_
   refine RH.val 15 rfl krX krX krX krX (Wanted.free rfl) (V.len rfl rfl el23.under rfl) rfl ?_
   refine RH.val 16 rfl krX krX krX krX (Wanted.free rfl) (V.indexBuf (j := p.id.toNat) rfl el22.slice rfl rfl pickX (by first | rfl | omega) (by omega)) rfl ?_
   refine RH.one (i := 17) krX ?_
   refine RHone.eff rfl (Wanted.free rfl) (E.storeBuf [vI ((p.log.length : Int) + 1)] rfl sz3 rfl rfl rfl pickX (by omega) (fun _ _ _ => ⟨rfl, by unfold inInt; omega⟩)) rfl ?_
   rintro _ _ rfl
   refine ⟨.inl krX, ?_⟩
   refine RH.done krX ?_
   refine SG.seq ?_
   refine SG.ent (?_ : Ent _ (Nd b18 (propQ p data) [] :: Blk b4 26 [.int .i64 0, .int .i64 0, .int .i64 0, .int .i64 0, .int .i64 0, .int .i64 0, .slice none 0 0, .slice none 0 0, .slice none 0 0] :: L)) ?_
   ·
    refine Nd.ent (la := a33) (ln := p.log.length + 1) (lc := c33) (va := va) (vn := vn) (vc := vc) (ma := ma) (mn := p.mtch.length) (mc := mc) (oa := oa) (on := on) (oc := oc) ?_
    exact entX
   refine SG.region ?_
   refine RL.val (Wanted.free rfl) (V.move rfl rfl) rfl ?_
   refine RL.eff (Wanted.free rfl) (E.call rfl go64 rfl (count_ok (p := propQ p data) pickX (by show (p.log ++ [_]).length ≤ _; simp; omega) (by show (p.mtch.set _ _).length ≤ _; rw [List.length_set]; omega) (by show p.nodes ≤ _; omega) hc0)) rfl ?_
   rintro _ _ ⟨rfl, rfl⟩
   refine RL.nil ?_
   refine SG.seq ?_
   rw [show counted (propQ p data) = propose p data from rfl]
   generalize hq : propose p data = q
   refine SG.openNd (p := q) pickX fun la ln lc va vn vc ma mn mc oa on oc => ?_
   refine SG.publish (T := RSlot) (a := la) pickX ?_
   refine SG.publish (T := RB) (a := va) pickX ?_
   refine SG.publish (T := RI) (a := ma) pickX ?_
   refine SG.ent (RPeer.mk (p := q) memX memX memX) ?_
   refine SG.region ?_
   refine RL.val (Wanted.free rfl) (V.move rfl rfl) rfl ?_
   refine RL.val (Wanted.free rfl) (V.nilCheck rfl rfl) rfl ?_
   refine RL.val (Wanted.free rfl) (V.fieldAddr rfl rfl fo94_0) rfl ?_
   refine RL.val (Wanted.free rfl) (V.loadAgg (us := pv q (.slice la ln lc) (.slice va vn vc) (.slice ma mn mc)) rfl ag26 rfl pickX rfl rfl) rfl ?_
   refine RL.eff (Wanted.free rfl) (E.storeWhole rfl rfl rfl (by rfl) sz26 pickX pv_one (by rfl)) rfl ?_
   rintro _ _ rfl
   refine RL.val (Wanted.free rfl) (V.assign rfl rfl) rfl ?_
   refine RL.nil ?_
   have hpv : propV p data = (q, 0) := by rw [propV, if_neg (by omega), if_neg (by omega), hq]
   rw [hpv]
   refine SG.retE (Ret.r2 Try.func18 rfl (.agg rfl ag26 pickX rfl rfl) (.tmp rfl)) ?_ ⟨_, rfl, rfl⟩
   exact entX

end Go.Proofs.Ytilcnglcflohoaa
