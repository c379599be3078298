/- New, Restart, Committed. -/
import Derived.Test.YtilcnglcflohoaaLead
namespace Go.Proofs.Ytilcnglcflohoaa
open Go.Wk Go.Rp

theorem Blk.cells {b E : Nat} {cs cs' : List Value} {L : List Assn} (h : cs = cs') : Ent (Blk b E cs :: L) (Blk b E cs' :: L) := by subst h; exact Ent.refl _
def zP : Peer := ⟨0, 0, 0, 0, 0, 0, [], [], []⟩
def newV (i n : Int) : Peer × Int := if n < 1 ∨ 5 < n ∨ i < 0 ∨ n ≤ i then (zP, 5) else (newP i n, 0)
theorem pv_one {p : Peer} {a b c : Option Addr} {n m k n' m' k' : Nat} : ∀ u ∈ pv p (.slice a n n') (.slice b m m') (.slice c k k'), u.oneCell' = true := fun u hu => by
  simp only [pv, List.mem_cons, List.not_mem_nil, or_false] at hu
  rcases hu with rfl | rfl | rfl | rfl | rfl | rfl | rfl | rfl | rfl <;> rfl
theorem RPeer.nil {p : Peer} {L : List Assn} (h1 : p.log = []) (h2 : p.votes = []) (h3 : p.mtch = []) : Ent L (Rd RPeer (pv p (.slice none 0 0) (.slice none 0 0) (.slice none 0 0)) p :: L) := fun z h H =>
  Holds.add_ro (R := fun z => RPeer.rep z _ p) ⟨((none, 0, 0), (none, 0, 0), (none, 0, 0)), rfl, ⟨by rw [h1]; rfl, Nat.le_refl _, by decide, .inl rfl⟩, ⟨by rw [h2]; rfl, Nat.le_refl _, by decide, .inl rfl⟩, ⟨by rw [h3]; rfl, Nat.le_refl _, by decide, .inl rfl⟩⟩ H
set_option maxRecDepth 100000 in
theorem pNew_ok {κ : World} {L : List Assn} {i n : Int} :
    Ctr Try.prog 12 #[vI i, vI n] κ L (fun v M => v = .tuple #[.agg (pv (newV i n).1 (.slice none 0 0) (.slice none 0 0) (.slice none 0 0)).toArray, vI (newV i n).2] ∧ M = L) := by
 refine Ctr.enter (vs := [vI i, vI n]) (m := 25) Try.func12 rfl rfl rfl ?_
 refine SG.seq ?_
 refine SG.region ?_
 refine RL.eff (Wanted.free rfl) (E.alloc rfl ze26) rfl ?_
 rintro _ _ ⟨b4, rfl, rfl⟩
 refine RL.val (Wanted.free rfl) (V.assign rfl rfl) rfl ?_
 refine RL.nil ?_
 refine SG.seq ?_
 refine SG.seq ?_
 refine SG.region ?_
 refine RL.val (Wanted.free rfl) (V.move rfl rfl) rfl ?_
 refine RL.cmp (Wanted.free rfl) (V.bin rfl rfl rfl B.lss) rfl (fun h4 => ?_) (fun h4 => ?_)
 ·
  refine RL.val (Wanted.free rfl) (V.move rfl rfl) rfl ?_
  refine RL.skip (Wanted.no rfl rfl rfl rfl rfl) rfl ?_
  refine RL.skip (Wanted.no rfl rfl rfl rfl rfl) rfl ?_
  refine RL.val (Wanted.free rfl) (V.pick_true rfl rfl rfl) rfl ?_
  refine RL.val (Wanted.free rfl) (V.move rfl rfl) rfl ?_
  refine RL.skip (Wanted.no rfl rfl rfl rfl rfl) rfl ?_
  refine RL.skip (Wanted.no rfl rfl rfl rfl rfl) rfl ?_
  refine RL.val (Wanted.free rfl) (V.pick_true rfl rfl rfl) rfl ?_
  refine RL.val (Wanted.free rfl) (V.move rfl rfl) rfl ?_
  refine RL.skip (Wanted.no rfl rfl rfl rfl rfl) rfl ?_
  refine RL.skip (Wanted.no rfl rfl rfl rfl rfl) rfl ?_
  refine RL.skip (Wanted.no rfl rfl rfl rfl rfl) rfl ?_
  refine RL.val (Wanted.free rfl) (V.pick_true rfl rfl rfl) rfl ?_
  refine RL.nil ?_
  refine SG.cond_true rfl ?_
  refine SG.seq ?_
  refine SG.region ?_
  refine RL.val (Wanted.free rfl) (V.buildS [] rfl bs26 (by exact trivial) rfl) rfl ?_
  refine RL.eff (Wanted.free rfl) (E.storeWhole rfl rfl rfl (by rfl) sz26 pickX (by first | (simp [Value.oneCell']; done) | (simp [setAt, Value.oneCell']; done)) (by rfl)) rfl ?_
  rintro _ _ rfl
  refine RL.val (Wanted.free rfl) (V.assign rfl rfl) rfl ?_
  refine RL.nil ?_
  refine SG.retE (Ret.r2 Try.func12 rfl (.agg rfl ag26 pickX rfl rfl) (.tmp rfl)) ?_ ⟨by first | (rw [newV, if_pos (by omega)]; rfl) | (rw [newV, if_neg (by omega)]; rfl), rfl⟩
  exact entX
 ·
  refine RL.val (Wanted.free rfl) (V.move rfl rfl) rfl ?_
  refine RL.val (Wanted.yes rfl rfl rfl rfl) (V.move rfl rfl) rfl ?_
  refine RL.cmp (Wanted.yes rfl rfl rfl rfl) (V.bin rfl rfl rfl B.gtr) rfl (fun h13 => ?_) (fun h13 => ?_)
  ·
   refine RL.val (Wanted.free rfl) (V.pick_false rfl rfl rfl) rfl ?_
   refine RL.val (Wanted.free rfl) (V.move rfl rfl) rfl ?_
   refine RL.skip (Wanted.no rfl rfl rfl rfl rfl) rfl ?_
   refine RL.skip (Wanted.no rfl rfl rfl rfl rfl) rfl ?_
   refine RL.val (Wanted.free rfl) (V.pick_true rfl rfl rfl) rfl ?_
   refine RL.val (Wanted.free rfl) (V.move rfl rfl) rfl ?_
   refine RL.skip (Wanted.no rfl rfl rfl rfl rfl) rfl ?_
   refine RL.skip (Wanted.no rfl rfl rfl rfl rfl) rfl ?_
   refine RL.skip (Wanted.no rfl rfl rfl rfl rfl) rfl ?_
   refine RL.val (Wanted.free rfl) (V.pick_true rfl rfl rfl) rfl ?_
   refine RL.nil ?_
   refine SG.cond_true rfl ?_
   refine SG.seq ?_
   refine SG.region ?_
   refine RL.val (Wanted.free rfl) (V.buildS [] rfl bs26 (by exact trivial) rfl) rfl ?_
   refine RL.eff (Wanted.free rfl) (E.storeWhole rfl rfl rfl (by rfl) sz26 pickX (by first | (simp [Value.oneCell']; done) | (simp [setAt, Value.oneCell']; done)) (by rfl)) rfl ?_
   rintro _ _ rfl
   refine RL.val (Wanted.free rfl) (V.assign rfl rfl) rfl ?_
   refine RL.nil ?_
   refine SG.retE (Ret.r2 Try.func12 rfl (.agg rfl ag26 pickX rfl rfl) (.tmp rfl)) ?_ ⟨by first | (rw [newV, if_pos (by omega)]; rfl) | (rw [newV, if_neg (by omega)]; rfl), rfl⟩
   exact entX
  ·
   refine RL.val (Wanted.free rfl) (V.pick_false rfl rfl rfl) rfl ?_
   refine RL.val (Wanted.free rfl) (V.move rfl rfl) rfl ?_
   refine RL.val (Wanted.yes rfl rfl rfl rfl) (V.move rfl rfl) rfl ?_
   refine RL.cmp (Wanted.yes rfl rfl rfl rfl) (V.bin rfl rfl rfl B.lss) rfl (fun h21 => ?_) (fun h21 => ?_)
   ·
    refine RL.val (Wanted.free rfl) (V.pick_false rfl rfl rfl) rfl ?_
    refine RL.val (Wanted.free rfl) (V.move rfl rfl) rfl ?_
    refine RL.skip (Wanted.no rfl rfl rfl rfl rfl) rfl ?_
    refine RL.skip (Wanted.no rfl rfl rfl rfl rfl) rfl ?_
    refine RL.skip (Wanted.no rfl rfl rfl rfl rfl) rfl ?_
    refine RL.val (Wanted.free rfl) (V.pick_true rfl rfl rfl) rfl ?_
    refine RL.nil ?_
    refine SG.cond_true rfl ?_
    refine SG.seq ?_
    refine SG.region ?_
    refine RL.val (Wanted.free rfl) (V.buildS [] rfl bs26 (by exact trivial) rfl) rfl ?_
    refine RL.eff (Wanted.free rfl) (E.storeWhole rfl rfl rfl (by rfl) sz26 pickX (by first | (simp [Value.oneCell']; done) | (simp [setAt, Value.oneCell']; done)) (by rfl)) rfl ?_
    rintro _ _ rfl
    refine RL.val (Wanted.free rfl) (V.assign rfl rfl) rfl ?_
    refine RL.nil ?_
    refine SG.retE (Ret.r2 Try.func12 rfl (.agg rfl ag26 pickX rfl rfl) (.tmp rfl)) ?_ ⟨by first | (rw [newV, if_pos (by omega)]; rfl) | (rw [newV, if_neg (by omega)]; rfl), rfl⟩
    exact entX
   ·
    refine RL.val (Wanted.free rfl) (V.pick_false rfl rfl rfl) rfl ?_
    refine RL.val (Wanted.free rfl) (V.move rfl rfl) rfl ?_
    refine RL.val (Wanted.yes rfl rfl rfl rfl) (V.move rfl rfl) rfl ?_
    refine RL.val (Wanted.yes rfl rfl rfl rfl) (V.move rfl rfl) rfl ?_
    refine RL.cmp (Wanted.yes rfl rfl rfl rfl) (V.bin rfl rfl rfl B.geq) rfl (fun h29 => ?_) (fun h29 => ?_)
    ·
     refine RL.val (Wanted.free rfl) (V.pick_false rfl rfl rfl) rfl ?_
     refine RL.nil ?_
     refine SG.cond_true rfl ?_
     refine SG.seq ?_
     refine SG.region ?_
     refine RL.val (Wanted.free rfl) (V.buildS [] rfl bs26 (by exact trivial) rfl) rfl ?_
     refine RL.eff (Wanted.free rfl) (E.storeWhole rfl rfl rfl (by rfl) sz26 pickX (by first | (simp [Value.oneCell']; done) | (simp [setAt, Value.oneCell']; done)) (by rfl)) rfl ?_
     rintro _ _ rfl
     refine RL.val (Wanted.free rfl) (V.assign rfl rfl) rfl ?_
     refine RL.nil ?_
     refine SG.retE (Ret.r2 Try.func12 rfl (.agg rfl ag26 pickX rfl rfl) (.tmp rfl)) ?_ ⟨by first | (rw [newV, if_pos (by omega)]; rfl) | (rw [newV, if_neg (by omega)]; rfl), rfl⟩
     exact entX
    ·
     refine RL.val (Wanted.free rfl) (V.pick_false rfl rfl rfl) rfl ?_
     refine RL.nil ?_
     refine SG.cond_false rfl ?_
     refine SG.skip ?_
     refine SG.seq ?_
     refine SG.region ?_
     refine RL.val (Wanted.free rfl) (V.move rfl rfl) rfl ?_
     refine RL.val (Wanted.free rfl) (V.move rfl rfl) rfl ?_
     refine RL.val (Wanted.free rfl) (V.buildS [(0, _), (1, _), (3, _)] rfl bs26 (by exact ⟨rfl, ⟨_, rfl, rfl⟩, ⟨rfl, ⟨_, rfl, rfl⟩, ⟨rfl, ⟨_, rfl, rfl⟩, trivial⟩⟩⟩) rfl) rfl ?_
     refine RL.eff (Wanted.free rfl) (E.storeWhole rfl rfl rfl (by rfl) sz26 pickX (by first | (simp [Value.oneCell']; done) | (simp [setAt, Value.oneCell']; done)) (by rfl)) rfl ?_
     rintro _ _ rfl
     refine RL.val (Wanted.free rfl) (V.assign rfl rfl) rfl ?_
     refine RL.nil ?_
     refine SG.retE (Ret.r2 Try.func12 rfl (.agg rfl ag26 pickX rfl rfl) (.tmp rfl)) ?_ ⟨by first | (rw [newV, if_pos (by omega)]; rfl) | (rw [newV, if_neg (by omega)]; rfl), rfl⟩
     exact entX

set_option maxRecDepth 100000 in
theorem pRestart_ok {κ : World} {L : List Assn} {us : List Value} {p : Peer} (hm : Rd RPeer us p ∈ L) (hb1 : p.log.length ≤ 900000) (hb2 : p.votes.length ≤ 1000) (hb3 : p.mtch.length ≤ 1000) :
    Ctr Try.prog 23 #[.agg us.toArray] κ L (fun v M => ∃ us', v = .agg us'.toArray ∧ M = Rd RPeer us' (restart p) :: L) := by
 refine Ctr.enter (vs := [.agg us.toArray]) (m := 26) Try.func23 rfl rfl rfl ?_
 refine SG.openPeer (Pick.rd hm) fun ka kn kc wa wn wc xa xn xc hus => ?_
 subst hus
 refine SG.seq ?_
 refine SG.region ?_
 refine RL.eff (Wanted.free rfl) (E.box _ rfl rfl rfl) rfl ?_
 rintro _ _ ⟨b1, rfl, rfl⟩
 refine RL.eff (Wanted.free rfl) (E.alloc rfl ze26) rfl ?_
 rintro _ _ ⟨b2, rfl, rfl⟩
 refine RL.nil ?_
 refine SG.seq ?_
 refine SG.region ?_
 refine RL.val (Wanted.free rfl) (V.loadAgg (us := pv p (.slice ka kn kc) (.slice wa wn wc) (.slice xa xn xc)) rfl ag26 rfl pickX rfl rfl) rfl ?_
 refine RL.eff (Wanted.free rfl) (E.call rfl go57 rfl (copied_ok (us := pv p (.slice ka kn kc) (.slice wa wn wc) (.slice xa xn xc)) (p := p) memX (by omega) (by omega) (by omega))) rfl ?_
 rintro _ _ ⟨b5, rfl, rfl⟩
 refine RL.val (Wanted.free rfl) (V.assign rfl rfl) rfl ?_
 refine RL.nil ?_
 refine SG.seq ?_
 refine SG.openNd Pick.here fun la ln lc va vn vc ma mn mc oa on oc => ?_
 refine SG.region ?_
 refine RL.val (Wanted.free rfl) (V.move rfl rfl) rfl ?_
 refine RL.val (Wanted.free rfl) (V.move rfl rfl) rfl ?_
 refine RL.val (Wanted.free rfl) (V.move rfl rfl) rfl ?_
 refine RL.val (Wanted.free rfl) (V.move rfl rfl) rfl ?_
 refine RL.val (Wanted.free rfl) (V.nilCheck rfl rfl) rfl ?_
 refine RL.val (Wanted.free rfl) (V.fieldAddr rfl rfl fo94_0) rfl ?_
 refine RL.val (Wanted.free rfl) (V.fieldAddr rfl rfl fo26_4) rfl ?_
 refine RL.eff (Wanted.free rfl) (E.store1 rfl rfl rfl rfl rfl sz3 pickX rfl) rfl ?_
 rintro _ _ rfl
 refine RL.val (Wanted.free rfl) (V.nilCheck rfl rfl) rfl ?_
 refine RL.val (Wanted.free rfl) (V.fieldAddr rfl rfl fo94_0) rfl ?_
 refine RL.val (Wanted.free rfl) (V.fieldAddr rfl rfl fo26_5) rfl ?_
 refine RL.eff (Wanted.free rfl) (E.store1 rfl rfl rfl rfl rfl sz3 pickX rfl) rfl ?_
 rintro _ _ rfl
 refine RL.val (Wanted.free rfl) (V.nilCheck rfl rfl) rfl ?_
 refine RL.val (Wanted.free rfl) (V.fieldAddr rfl rfl fo94_0) rfl ?_
 refine RL.val (Wanted.free rfl) (V.fieldAddr rfl rfl fo26_7) rfl ?_
 refine RL.eff (Wanted.free rfl) (E.store1 rfl rfl rfl rfl rfl sz24 pickX rfl) rfl ?_
 rintro _ _ rfl
 refine RL.val (Wanted.free rfl) (V.nilCheck rfl rfl) rfl ?_
 refine RL.val (Wanted.free rfl) (V.fieldAddr rfl rfl fo94_0) rfl ?_
 refine RL.val (Wanted.free rfl) (V.fieldAddr rfl rfl fo26_8) rfl ?_
 refine RL.eff (Wanted.free rfl) (E.store1 rfl rfl rfl rfl rfl sz22 pickX rfl) rfl ?_
 rintro _ _ rfl
 refine RL.nil ?_
 refine SG.seq ?_
 refine SG.ent (Blk.cells (cs' := nv (restart p) (.slice la ln lc) (.slice none 0 0) (.slice none 0 0) (.slice oa on oc)) rfl) ?_
 refine SG.publish (T := RSlot) (a := la) pickX ?_
 refine SG.ent (Sl.nil (T := RB)) ?_
 refine SG.ent (Sl.nil (T := RI)) ?_
 refine SG.ent (RPeer.mk (p := restart p) memX memX memX) ?_
 refine SG.region ?_
 refine RL.val (Wanted.free rfl) (V.move rfl rfl) rfl ?_
 refine RL.val (Wanted.free rfl) (V.nilCheck rfl rfl) rfl ?_
 refine RL.val (Wanted.free rfl) (V.fieldAddr rfl rfl fo94_0) rfl ?_
 refine RL.val (Wanted.free rfl) (V.loadAgg (us := pv (restart p) (.slice la ln lc) (.slice none 0 0) (.slice none 0 0)) rfl ag26 rfl pickX rfl rfl) rfl ?_
 refine RL.eff (Wanted.free rfl) (E.storeWhole rfl rfl rfl (by rfl) sz26 pickX pv_one (by rfl)) rfl ?_
 rintro _ _ rfl
 refine RL.nil ?_
 refine SG.retE (Ret.r1 Try.func23 rfl (.agg rfl ag26 pickX rfl rfl)) ?_ ⟨_, rfl, rfl⟩
 exact entX

theorem com_step {l : List Slot} {i : Nat} (h : i < l.length) : (l.take (i + 1)).map (·.data) = (l.take i).map (·.data) ++ [l[i].data] := by
  rw [List.take_add_one, List.getElem?_eq_getElem h, List.map_append]; rfl
theorem com_eq {p : Peer} (h : 0 ≤ p.commit) (h2 : p.commit ≤ p.log.length) : (if (p.log.length : Int) < p.commit then (p.log.length : Int) else p.commit) = ((p.commit.toNat : Nat) : Int) := by
  rw [if_neg (by omega)]; omega
set_option maxRecDepth 100000 in
theorem pCom_ok {κ : World} {L : List Assn} {us : List Value} {p : Peer} (hm : Rd RPeer us p ∈ L) (hb1 : p.log.length ≤ 900000) (_ : p.votes.length ≤ 1000) (_ : p.mtch.length ≤ 1000) (h0 : 0 ≤ p.commit) (h1 : p.commit ≤ p.log.length) (hd : ∀ x ∈ p.log, x.data.length ≤ 1000000) :
    Ctr Try.prog 26 #[.agg us.toArray] κ L (fun v M => ∃ a' c', v = .slice a' (committed p).length c' ∧ M = Sl RS a' (committed p).length c' (committed p) :: L) := by
 refine Ctr.enter (vs := [.agg us.toArray]) (m := 27) Try.func26 rfl rfl rfl ?_
 refine SG.openPeer (Pick.rd hm) fun ka kn kc wa wn wc xa xn xc hus => ?_
 subst hus
 refine SG.sl (T := RSlot) (a := ka) memX fun hkl _ _ => ?_
 subst hkl
 refine SG.ent (Buf.nil (T := RS) (e := 9)) ?_
 have hcl : (p.log.take p.commit.toNat).length = p.commit.toNat := by rw [List.length_take]; omega
 refine SG.seq ?_
 refine SG.region ?_
 refine RL.eff (Wanted.free rfl) (E.box _ rfl rfl rfl) rfl ?_
 rintro _ _ ⟨b1, rfl, rfl⟩
 refine RL.val (Wanted.free rfl) (V.assign rfl rfl) rfl ?_
 refine RL.nil ?_
 refine SG.seq ?_
 refine SG.region ?_
 refine RL.val (Wanted.free rfl) (V.assign rfl rfl) rfl ?_
 refine RL.nil ?_
 refine SG.seq ?_
 refine SG.seq ?_
 refine SG.region ?_
 refine RL.val (Wanted.free rfl) (V.fieldAddr rfl rfl fo26_6) rfl ?_
 refine RL.val (Wanted.free rfl) (V.load rfl on23 rfl pickX rfl) rfl ?_
 refine RL.val (Wanted.free rfl) (V.fieldAddr rfl rfl fo26_5) rfl ?_
 refine RL.val (Wanted.free rfl) (V.load rfl on3 rfl pickX rfl) rfl ?_
 refine RL.val (Wanted.free rfl) (V.fieldAddr rfl rfl fo26_6) rfl ?_
 refine RL.val (Wanted.free rfl) (V.load rfl on23 rfl pickX rfl) rfl ?_
 refine RL.val (Wanted.free rfl) (V.len rfl rfl el23.under rfl) rfl ?_
 refine RL.val (Wanted.free rfl) (V.min rfl rfl rfl rfl) rfl ?_
 rw [com_eq h0 h1]
 refine RL.eff (Wanted.free rfl) (E.slice (hi := p.commit.toNat) rfl el23.slice rfl memX rfl ⟨_, _, rfl, (by first | rfl | omega)⟩ (by omega) (by omega)) rfl ?_
 intro _ _ hK12
 try rw [List.drop_zero] at hK12
 iterate 2 (try rw [Nat.sub_zero] at hK12)
 obtain ⟨a14, rfl, rfl⟩ := hK12
 refine RL.val (Wanted.free rfl) (V.len rfl rfl el23.under rfl) rfl ?_
 refine RL.val (Wanted.free rfl) (V.move rfl rfl) rfl ?_
 refine RL.nil ?_
 refine SG.block ?_
 have hdl : ∀ x ∈ p.log.take p.commit.toNat, x.data.length ≤ 9223372036854775807 := fun x hx => by have := hd x (List.mem_of_mem_take hx); omega
 refine SG.weaken (SG.loop2 (fun m al M => ∃ (i : Nat) (a3 : Option Addr) (c3 : Nat), i ≤ p.commit.toNat ∧ m = p.commit.toNat - i ∧ al = [(3, .slice a3 i c3), (14, .slice a14 p.commit.toNat kc), (15, vI (p.commit.toNat : Nat)), (16, vI i)] ∧ M = Buf RS 9 a3 i c3 (((p.log.take p.commit.toNat).take i).map (·.data)) :: Sl RSlot a14 p.commit.toNat kc (p.log.take p.commit.toNat) :: L) (m0 := _) ⟨0, none, 0, by omega, rfl, rfl, rfl⟩ ?_) ?_ ?_
 rotate_left
 ·
  repeat (first | exact EnvLe.nil _ | refine EnvLe.cons rfl ?_)
 ·
  exact entX
 rintro _ _ _ ⟨i, a3, c3, hi, rfl, rfl, rfl⟩ ih0
 refine SG.seq ?_
 refine SG.region ?_
 refine RL.cmp (Wanted.free rfl) (V.bin rfl rfl rfl B.lss) rfl (fun h15 => ?_) (fun h15 => ?_)
 ·
  refine RL.nil ?_
  refine SG.seq ?_
  refine SG.cond_true rfl ?_
  refine SG.skip ?_
  refine SG.seq ?_
  refine SG.block ?_
  refine SG.seq ?_
  refine SG.elemDt (a := a14) (l := p.log.take p.commit.toNat) memX (show (p.log.take p.commit.toNat)[i]? = some ((p.log.take p.commit.toNat)[i]'(by omega)) from List.getElem?_eq_getElem (by omega)) fun _ => ?_
  refine SG.region ?_
  refine RL.val (Wanted.free rfl) (V.indexSl (j := i) rfl el23.slice rfl rfl memX (by first | rfl | omega) (by omega)) rfl ?_
  refine RL.val (Wanted.free rfl) (V.loadAt (a := a14) (k := i * 2) rfl ag53 rfl memX rfl) rfl ?_
  refine RL.eff (Wanted.free rfl) (E.alloc rfl ze53) rfl ?_
  rintro _ _ ⟨b5, rfl, rfl⟩
  refine RL.eff (Wanted.free rfl) (E.storeWhole rfl rfl rfl (by rfl) sz53 pickX (by simp [Value.oneCell']) (by rfl)) rfl ?_
  rintro _ _ rfl
  refine RL.nil ?_
  refine SG.region ?_
  refine RL.val (Wanted.free rfl) (V.move rfl rfl) rfl ?_
  refine RL.val (Wanted.free rfl) (V.fieldAddr rfl rfl fo53_1) rfl ?_
  refine RL.val (Wanted.free rfl) (V.load rfl on9 rfl pickX rfl) rfl ?_
  refine RL.eff (Wanted.free rfl) (E.lit1 [vS ((p.log.take p.commit.toNat)[i]'(by omega)).data] rfl el45.slice ze9 rfl (by decide) (by decide) rfl rfl rfl) rfl ?_
  rintro _ _ ⟨b23, rfl, rfl⟩
  refine RL.eff (Wanted.free rfl) (E.append (T := RS) rfl rfl rfl el45 el45.noInt rfl rfl pickX (Src.lit (x := ((p.log.take p.commit.toNat)[i]'(by omega)).data) pickX (hdl _ (List.getElem_mem _))) (by first | omega | (simp; omega)) (by first | omega | (simp; omega))) rfl ?_
  intro _ _ hK24
  try rw [List.nil_append] at hK24
  try rw [Nat.zero_add] at hK24
  rw [← com_step (by omega)] at hK24
  obtain ⟨a24, c24, rfl, rfl⟩ := hK24
  refine RL.val (Wanted.free rfl) (V.assign rfl rfl) rfl ?_
  refine RL.nil ?_
  refine SG.inBlock ?_
  refine SG.region ?_
  refine RL.val (Wanted.free rfl) (V.bin rfl rfl rfl (B.addI (by omega) (by omega))) rfl ?_
  refine RL.val (Wanted.free rfl) (V.move rfl rfl) rfl ?_
  refine RL.nil ?_
  refine SG.weaken (ih0 _ _ _ ?_ ⟨i + 1, a24, c24, by omega, rfl, rfl, rfl⟩) ?_ ?_
  ·
   omega
  ·
   repeat (first | exact EnvLe.nil _ | refine EnvLe.cons rfl ?_)
  ·
   exact entX
 ·
  refine RL.nil ?_
  refine SG.seq ?_
  refine SG.cond_false rfl ?_
  refine SG.exit rfl ?_
  refine SG.seq ?_
  obtain rfl : i = p.commit.toNat := by omega
  rw [show (p.log.take p.commit.toNat).take p.commit.toNat = p.log.take p.commit.toNat from by rw [List.take_take, Nat.min_self]]
  refine SG.publish (T := RS) (a := a3) (l := committed p) pickX ?_
  rw [show p.commit.toNat = (committed p).length from by rw [committed, List.length_map]; omega]
  refine SG.region ?_
  refine RL.val (Wanted.free rfl) (V.move rfl rfl) rfl ?_
  refine RL.val (Wanted.free rfl) (V.assign rfl rfl) rfl ?_
  refine RL.nil ?_
  refine SG.retE (Ret.r1 Try.func26 rfl (.tmp rfl)) ?_ ⟨_, _, rfl, rfl⟩
  exact entX

end Go.Proofs.Ytilcnglcflohoaa
