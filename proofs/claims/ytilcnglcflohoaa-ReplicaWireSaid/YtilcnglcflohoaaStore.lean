/- Slots that are stored. -/
import Derived.Test.YtilcnglcflohoaaVotes
namespace Go.Proofs.Ytilcnglcflohoaa
open Go.Wk Go.Rp

set_option maxRecDepth 100000 in
set_option maxHeartbeats 1000000 in
theorem stored_okw {κ : World} {L : List Assn} {L1 : List Assn} {b : Nat} {p : Peer} {out : List Msg} (hp : Pick (Nd b p out) L L1) {us : List Value} {m : Msg} (hm : Rd RMsg us m ∈ L1) (_ : out.length ≤ 10) (hb1 : p.log.length ≤ 900000) (_ : p.votes.length ≤ 1000) (hb3 : p.mtch.length ≤ 1000) (hn1 : 1 ≤ p.nodes) (hn5 : p.nodes ≤ 5) (_ : 0 ≤ p.id) (_ : p.id < p.nodes) (_ : 0 ≤ p.term) (_ : p.term ≤ 1000000) (hmn : p.role = 2 → p.mtch.length = p.nodes.toNat) (hf0 : 0 ≤ m.frm) (hf1 : m.frm < p.nodes) (hmi : inInt m.index) (hc0 : 0 ≤ p.commit) :
    Ctr Try.prog 73 #[ptr b 0, .agg us.toArray] κ L (fun v M => v = .tuple #[] ∧ M = Nd b (storedP p m) out :: L1) := by
 refine Ctr.enter (vs := [ptr b 0, .agg us.toArray]) (m := 47) Try.func73 rfl rfl rfl ?_
 refine SG.openNd hp fun la ln lc va vn vc ma mn mc oa on oc => ?_
 refine SG.openMsg (Pick.rd (show Rd RMsg us m ∈ _ from memX)) fun sa sn sc hus => ?_
 subst hus
 refine SG.buf (T := RSlot) (a := la) pickX fun hll _ _ => ?_
 refine SG.buf (T := RB) (a := va) pickX fun hvl _ _ => ?_
 refine SG.buf (T := RI) (a := ma) pickX fun hml _ _ => ?_
 refine SG.buf (T := RMsg) (a := oa) pickX fun hol _ _ => ?_
 refine SG.sl (T := RSlot) (a := sa) memX fun hsl _ _ => ?_
 subst hll; subst hvl; subst hml; subst hol; subst hsl
 refine SG.seq ?_
 refine SG.region ?_
 refine RL.eff (Wanted.free rfl) (E.box _ rfl rfl rfl) rfl ?_
 rintro _ _ ⟨b3, rfl, rfl⟩
 refine RL.nil ?_
 refine SG.seq ?_
 refine SG.seq ?_
 refine SG.drawL 31 31 wide rfl rfl ?_
 refine RH.val 0 rfl krX krX krX krX (Wanted.free rfl) (V.move rfl rfl) rfl ?_
 refine RH.val 1 rfl krX krX krX krX (Wanted.free rfl) (V.nilCheck rfl rfl) rfl ?_
 refine RH.val 2 rfl krX krX krX krX (Wanted.free rfl) (V.fieldAddr rfl rfl fo94_0) rfl ?_
 refine RH.val 3 rfl krX krX krX krX (Wanted.free rfl) (V.fieldAddr rfl rfl fo26_4) rfl ?_
 refine RH.val 4 rfl krX krX krX krX (Wanted.free rfl) (V.load rfl on3 rfl pickX rfl) rfl ?_
 refine RH.cmp 5 rfl krX krX krX krX (Wanted.free rfl) (V.bin rfl rfl rfl B.neq) rfl (fun h7 => ?_) (fun h7 => ?_)
 ·
  have hvp : storedP p m = p := if_pos (.inl (by omega))
  refine RH.val 6 rfl krX krX krX krX (Wanted.free rfl) (V.move rfl rfl) rfl ?_
  refine RH.skip 7 rfl krX krX krX krX (Wanted.no rfl rfl rfl rfl rfl) rfl ?_
  refine RH.skip 8 rfl krX krX krX krX (Wanted.no rfl rfl rfl rfl rfl) rfl ?_
  refine RH.skip 9 rfl krX krX krX krX (Wanted.no rfl rfl rfl rfl rfl) rfl ?_
  refine RH.skip 10 rfl krX krX krX krX (Wanted.no rfl rfl rfl rfl rfl) rfl ?_
  refine RH.skip 11 rfl krX krX krX krX (Wanted.no rfl rfl rfl rfl rfl) rfl ?_
  refine RH.skip 12 rfl krX krX krX krX (Wanted.no rfl rfl rfl rfl rfl) rfl ?_
  refine RH.skip 13 rfl krX krX krX krX (Wanted.no rfl rfl rfl rfl rfl) rfl ?_
  refine RH.skip 14 rfl krX krX krX krX (Wanted.no rfl rfl rfl rfl rfl) rfl ?_
  refine RH.skip 15 rfl krX krX krX krX (Wanted.no rfl rfl rfl rfl rfl) rfl ?_
  refine RH.pure 16 rfl krX krX krX krX (Wanted.free rfl) (V.pick_true rfl rfl rfl) rfl ?_
  refine RH.val 17 rfl krX krX krX krX (Wanted.free rfl) (V.move rfl rfl) rfl ?_
  refine RH.skip 18 rfl krX krX krX krX (Wanted.no rfl rfl rfl rfl rfl) rfl ?_
  refine RH.skip 19 rfl krX krX krX krX (Wanted.no rfl rfl rfl rfl rfl) rfl ?_
  refine RH.skip 20 rfl krX krX krX krX (Wanted.no rfl rfl rfl rfl rfl) rfl ?_
  refine RH.skip 21 rfl krX krX krX krX (Wanted.no rfl rfl rfl rfl rfl) rfl ?_
  refine RH.skip 22 rfl krX krX krX krX (Wanted.no rfl rfl rfl rfl rfl) rfl ?_
  refine RH.skip 23 rfl krX krX krX krX (Wanted.no rfl rfl rfl rfl rfl) rfl ?_
  refine RH.skip 24 rfl krX krX krX krX (Wanted.no rfl rfl rfl rfl rfl) rfl ?_
  refine RH.skip 25 rfl krX krX krX krX (Wanted.no rfl rfl rfl rfl rfl) rfl ?_
  refine RH.skip 26 rfl krX krX krX krX (Wanted.no rfl rfl rfl rfl rfl) rfl ?_
  refine RH.skip 27 rfl krX krX krX krX (Wanted.no rfl rfl rfl rfl rfl) rfl ?_
  refine RH.skip 28 rfl krX krX krX krX (Wanted.no rfl rfl rfl rfl rfl) rfl ?_
  refine RH.skip 29 rfl krX krX krX krX (Wanted.no rfl rfl rfl rfl rfl) rfl ?_
  refine RH.pure 30 rfl krX krX krX krX (Wanted.free rfl) (V.pick_true rfl rfl rfl) rfl ?_
  refine RH.done krX ?_
  refine SG.cond_true rfl ?_
  rw [hvp]
  refine SG.retE (Ret.none Try.func73 rfl) ?_ ⟨rfl, rfl⟩
  refine Nd.ent (la := la) (ln := p.log.length) (lc := lc) (va := va) (vn := p.votes.length) (vc := vc) (ma := ma) (mn := p.mtch.length) (mc := mc) (oa := oa) (on := out.length) (oc := oc) ?_
  exact entX
 ·
  have hm2 := hmn (by omega)
  have hgd : p.mtch.getD m.frm.toNat 0 = p.mtch[m.frm.toNat]'(by omega) := by rw [List.getD_eq_getElem?_getD, List.getElem?_eq_getElem (by omega)]; rfl
  refine RH.val 6 rfl krX krX krX krX (Wanted.free rfl) (V.move rfl rfl) rfl ?_
  refine RH.val 7 rfl krX krX krX krX (Wanted.yes rfl rfl rfl rfl) (V.fieldAddr rfl rfl fo50_4) rfl ?_
  refine RH.val 8 rfl krX krX krX krX (Wanted.yes rfl rfl rfl rfl) (V.load rfl on3 rfl pickX rfl) rfl ?_
  refine RH.val 9 rfl krX krX krX krX (Wanted.yes rfl rfl rfl rfl) (V.move rfl rfl) rfl ?_
  refine RH.val 10 rfl krX krX krX krX (Wanted.yes rfl rfl rfl rfl) (V.nilCheck rfl rfl) rfl ?_
  refine RH.val 11 rfl krX krX krX krX (Wanted.yes rfl rfl rfl rfl) (V.fieldAddr rfl rfl fo94_0) rfl ?_
  refine RH.val 12 rfl krX krX krX krX (Wanted.yes rfl rfl rfl rfl) (V.fieldAddr rfl rfl fo26_6) rfl ?_
  refine RH.val 13 rfl krX krX krX krX (Wanted.yes rfl rfl rfl rfl) (V.load rfl on23 rfl pickX rfl) rfl ?_
  refine RH.val 14 rfl krX krX krX krX (Wanted.yes rfl rfl rfl rfl) (V.len rfl rfl el23.under rfl) rfl ?_
  refine RH.cmp 15 rfl krX krX krX krX (Wanted.yes rfl rfl rfl rfl) (V.bin rfl rfl rfl B.gtr) rfl (fun h19 => ?_) (fun h19 => ?_)
  ·
   have hvp : storedP p m = p := if_pos (.inr (.inl (by omega)))
   refine RH.pure 16 rfl krX krX krX krX (Wanted.free rfl) (V.pick_false rfl rfl rfl) rfl ?_
   refine RH.val 17 rfl krX krX krX krX (Wanted.free rfl) (V.move rfl rfl) rfl ?_
   refine RH.skip 18 rfl krX krX krX krX (Wanted.no rfl rfl rfl rfl rfl) rfl ?_
   refine RH.skip 19 rfl krX krX krX krX (Wanted.no rfl rfl rfl rfl rfl) rfl ?_
   refine RH.skip 20 rfl krX krX krX krX (Wanted.no rfl rfl rfl rfl rfl) rfl ?_
   refine RH.skip 21 rfl krX krX krX krX (Wanted.no rfl rfl rfl rfl rfl) rfl ?_
   refine RH.skip 22 rfl krX krX krX krX (Wanted.no rfl rfl rfl rfl rfl) rfl ?_
   refine RH.skip 23 rfl krX krX krX krX (Wanted.no rfl rfl rfl rfl rfl) rfl ?_
   refine RH.skip 24 rfl krX krX krX krX (Wanted.no rfl rfl rfl rfl rfl) rfl ?_
   refine RH.skip 25 rfl krX krX krX krX (Wanted.no rfl rfl rfl rfl rfl) rfl ?_
   refine RH.skip 26 rfl krX krX krX krX (Wanted.no rfl rfl rfl rfl rfl) rfl ?_
   refine RH.skip 27 rfl krX krX krX krX (Wanted.no rfl rfl rfl rfl rfl) rfl ?_
   refine RH.skip 28 rfl krX krX krX krX (Wanted.no rfl rfl rfl rfl rfl) rfl ?_
   refine RH.skip 29 rfl krX krX krX krX (Wanted.no rfl rfl rfl rfl rfl) rfl ?_
   refine RH.pure 30 rfl krX krX krX krX (Wanted.free rfl) (V.pick_true rfl rfl rfl) rfl ?_
   refine RH.done krX ?_
   refine SG.cond_true rfl ?_
   rw [hvp]
   refine SG.retE (Ret.none Try.func73 rfl) ?_ ⟨rfl, rfl⟩
   refine Nd.ent (la := la) (ln := p.log.length) (lc := lc) (va := va) (vn := p.votes.length) (vc := vc) (ma := ma) (mn := p.mtch.length) (mc := mc) (oa := oa) (on := out.length) (oc := oc) ?_
   exact entX
  ·
   refine RH.pure 16 rfl krX krX krX krX (Wanted.free rfl) (V.pick_false rfl rfl rfl) rfl ?_
   refine RH.val 17 rfl krX krX krX krX (Wanted.free rfl) (V.move rfl rfl) rfl ?_
   refine RH.val 18 rfl krX krX krX krX (Wanted.yes rfl rfl rfl rfl) (V.fieldAddr rfl rfl fo50_4) rfl ?_
   refine RH.val 19 rfl krX krX krX krX (Wanted.yes rfl rfl rfl rfl) (V.load rfl on3 rfl pickX rfl) rfl ?_
   refine RH.val 20 rfl krX krX krX krX (Wanted.yes rfl rfl rfl rfl) (V.move rfl rfl) rfl ?_
   refine RH.val 21 rfl krX krX krX krX (Wanted.yes rfl rfl rfl rfl) (V.nilCheck rfl rfl) rfl ?_
   refine RH.val 22 rfl krX krX krX krX (Wanted.yes rfl rfl rfl rfl) (V.fieldAddr rfl rfl fo94_0) rfl ?_
   refine RH.val 23 rfl krX krX krX krX (Wanted.yes rfl rfl rfl rfl) (V.fieldAddr rfl rfl fo26_8) rfl ?_
   refine RH.val 24 rfl krX krX krX krX (Wanted.yes rfl rfl rfl rfl) (V.load rfl on22 rfl pickX rfl) rfl ?_
   refine RH.val 25 rfl krX krX krX krX (Wanted.yes rfl rfl rfl rfl) (V.fieldAddr rfl rfl fo50_1) rfl ?_
   refine RH.val 26 rfl krX krX krX krX (Wanted.yes rfl rfl rfl rfl) (V.load rfl on3 rfl pickX rfl) rfl ?_
   refine RH.val 27 rfl krX krX krX krX (Wanted.yes rfl rfl rfl rfl) (V.indexBuf (j := m.frm.toNat) rfl el22.slice rfl rfl pickX (by first | rfl | omega) (by omega)) rfl ?_
   refine RH.val 28 rfl krX krX krX krX (Wanted.yes rfl rfl rfl rfl) (V.loadBufSc rfl on3 rfl pickX (List.getElem?_eq_getElem (by omega))) rfl ?_
   refine RH.cmp 29 rfl krX krX krX krX (Wanted.yes rfl rfl rfl rfl) (V.bin rfl rfl rfl B.leq) rfl (fun h33 => ?_) (fun h33 => ?_)
   ·
    have hvp : storedP p m = p := if_pos (.inr (.inr (by rw [hgd]; omega)))
    refine RH.pure 30 rfl krX krX krX krX (Wanted.free rfl) (V.pick_false rfl rfl rfl) rfl ?_
    refine RH.done krX ?_
    refine SG.cond_true rfl ?_
    rw [hvp]
    refine SG.retE (Ret.none Try.func73 rfl) ?_ ⟨rfl, rfl⟩
    refine Nd.ent (la := la) (ln := p.log.length) (lc := lc) (va := va) (vn := p.votes.length) (vc := vc) (ma := ma) (mn := p.mtch.length) (mc := mc) (oa := oa) (on := out.length) (oc := oc) ?_
    exact entX
   ·
    have hvp : storedP p m = counted { p with mtch := p.mtch.set m.frm.toNat m.index } := if_neg (by rw [hgd]; omega)
    refine RH.pure 30 rfl krX krX krX krX (Wanted.free rfl) (V.pick_false rfl rfl rfl) rfl ?_
    refine RH.done krX ?_
    refine SG.cond_false rfl ?_
    refine SG.skip ?_
    refine SG.seq ?_
    refine SG.drawL 11 10 wide rfl rfl ?_
    refine RH.val 0 rfl krX krX krX krX (Wanted.free rfl) (V.move rfl rfl) rfl ?_
    refine RH.val 1 rfl krX krX krX krX (Wanted.free rfl) (V.nilCheck rfl rfl) rfl ?_
    refine RH.val 2 rfl krX krX krX krX (Wanted.free rfl) (V.fieldAddr rfl rfl fo94_0) rfl ?_
    refine RH.val 3 rfl krX krX krX krX (Wanted.free rfl) (V.fieldAddr rfl rfl fo26_8) rfl ?_
    refine RH.val 4 rfl krX krX krX krX (Wanted.free rfl) (V.load rfl on22 rfl pickX rfl) rfl ?_
    refine RH.val 5 rfl krX krX krX krX (Wanted.free rfl) (V.fieldAddr rfl rfl fo50_1) rfl ?_
    refine RH.val 6 rfl krX krX krX krX (Wanted.free rfl) (V.load rfl on3 rfl pickX rfl) rfl ?_
    refine RH.val 7 rfl krX krX krX krX (Wanted.free rfl) (V.fieldAddr rfl rfl fo50_4) rfl ?_
    refine RH.val 8 rfl krX krX krX krX (Wanted.free rfl) (V.load rfl on3 rfl pickX rfl) rfl ?_
    refine RH.val 9 rfl krX krX krX krX (Wanted.free rfl) (V.indexBuf (j := m.frm.toNat) rfl el22.slice rfl rfl pickX (by first | rfl | omega) (by omega)) rfl ?_
    refine RH.one (i := 10) krX ?_
    refine RHone.eff rfl (Wanted.free rfl) (E.storeBuf [vI m.index] rfl sz3 rfl rfl rfl pickX (by omega) (fun _ _ _ => ⟨rfl, hmi⟩)) rfl ?_
    rintro _ _ rfl
    refine ⟨.inl krX, ?_⟩
    refine RH.done krX ?_
    refine SG.ent (?_ : Ent _ (Nd b { p with mtch := p.mtch.set m.frm.toNat m.index } out :: Blk b3 50 (mv m (.slice sa m.slots.length sc)) :: L1)) ?_
    ·
     refine Nd.ent (la := la) (ln := p.log.length) (lc := lc) (va := va) (vn := p.votes.length) (vc := vc) (ma := ma) (mn := p.mtch.length) (mc := mc) (oa := oa) (on := out.length) (oc := oc) ?_
     exact entX
    refine SG.region ?_
    refine RL.val (Wanted.free rfl) (V.move rfl rfl) rfl ?_
    refine RL.eff (Wanted.free rfl) (E.call rfl go64 rfl (count_ok (p := { p with mtch := p.mtch.set m.frm.toNat m.index }) pickX (by show p.log.length ≤ _; omega) (by show (p.mtch.set _ _).length ≤ _; rw [List.length_set]; omega) (by show p.nodes ≤ _; omega) hc0)) rfl ?_
    rintro _ _ ⟨rfl, rfl⟩
    refine RL.nil ?_
    rw [hvp]
    refine SG.doneE (Ret.none Try.func73 rfl) ?_ ⟨rfl, rfl⟩
    exact entX

theorem merge_at {log : List Slot} : ∀ {s : List Slot} {k i : Nat}, i ≤ s.length → (∀ j, j < i → ∃ x y, log[k + j]? = some x ∧ s[j]? = some y ∧ x.term = y.term) → merge log k s = merge log (k + i) (s.drop i)
  | _, _, 0, _, _ => rfl
  | [], _, i + 1, h, _ => by simp at h
  | y :: s, k, i + 1, h, hj => by
    obtain ⟨x, y', h1, h2, h3⟩ := hj 0 (by omega)
    simp only [List.getElem?_cons_zero, Option.some.injEq] at h2
    subst h2
    rw [Nat.add_zero] at h1
    have hlt := (List.getElem?_eq_some_iff.1 h1).1
    have hg : (log.getD k ⟨0, []⟩).term = y.term := by rw [List.getD_eq_getElem?_getD, h1]; exact h3
    have ih := merge_at (log := log) (s := s) (k := k + 1) (i := i) (by simpa using h) fun j hj' => by
      obtain ⟨x, y, a, b, c⟩ := hj (j + 1) (by omega)
      exact ⟨x, y, by rw [show k + 1 + j = k + (j + 1) from by omega]; exact a, by simpa using b, c⟩
    rw [show k + (i + 1) = k + 1 + i from by omega, List.drop_succ_cons, ← ih]
    conv => lhs; unfold merge
    rw [if_pos ⟨hlt, hg⟩]
theorem merge_stop {log s : List Slot} {k i : Nat} (h : i < s.length) (hn : k + i = log.length ∨ ∃ (hk : k + i < log.length), log[k + i].term ≠ s[i].term) : merge log (k + i) (s.drop i) = log.take (k + i) ++ s.drop i := by
  rw [List.drop_eq_getElem_cons h]
  unfold merge
  rw [if_neg]
  rintro ⟨a, b⟩
  rcases hn with hn | ⟨hk, hn⟩
  · omega
  · rw [List.getD_eq_getElem?_getD, List.getElem?_eq_getElem hk] at b
    exact hn b
theorem mm_eq {c k e : Int} : (if c < (if e < k then e else k) then (if e < k then e else k) else c) = max c (min k e) := by omega
theorem merge_all {log s : List Slot} {k : Nat} : merge log k (s.drop s.length) = log := by rw [List.drop_length]; rfl
theorem Buf.eqR {α : Type} {T : Rep α} {e : Nat} {a : Option Addr} {m c m' : Nat} {l l' : List α} {L : List Assn} (h : l = l') (hm : m = m') : Ent (Buf T e a m c l :: L) (Buf T e a m' c l' :: L) := by subst h; subst hm; exact Ent.refl _
set_option maxRecDepth 100000 in
set_option maxHeartbeats 2000000 in
theorem store_okw {κ : World} {L : List Assn} {L1 : List Assn} {b : Nat} {p : Peer} {out : List Msg} (hp : Pick (Nd b p out) L L1) {us : List Value} {m : Msg} (hm : Rd RMsg us m ∈ L1) (hol1 : out.length ≤ 10) (hb1 : p.log.length ≤ 900000) (_ : p.votes.length ≤ 1000) (_ : p.mtch.length ≤ 1000) (hx0 : 0 ≤ m.index) (hx1 : m.index ≤ 1000000) (hs1 : m.slots.length ≤ 1000000) :
    Ctr Try.prog 72 #[ptr b 0, .agg us.toArray] κ L (fun v M => v = .tuple #[] ∧ M = Nd b (Rp.store p m).1 (out ++ (Rp.store p m).2) :: L1) := by
 refine Ctr.enter (vs := [ptr b 0, .agg us.toArray]) (m := 142) Try.func72 rfl rfl rfl ?_
 refine SG.openNd hp fun la ln lc va vn vc ma mn mc oa on oc => ?_
 refine SG.openMsg (Pick.rd (show Rd RMsg us m ∈ _ from memX)) fun sa sn sc hus => ?_
 subst hus
 refine SG.buf (T := RSlot) (a := la) pickX fun hll _ _ => ?_
 refine SG.buf (T := RB) (a := va) pickX fun hvl _ _ => ?_
 refine SG.buf (T := RI) (a := ma) pickX fun hml _ _ => ?_
 refine SG.buf (T := RMsg) (a := oa) pickX fun hol _ _ => ?_
 refine SG.sl (T := RSlot) (a := sa) memX fun hsl _ _ => ?_
 subst hll; subst hvl; subst hml; subst hol; subst hsl
 refine SG.seq ?_
 refine SG.region ?_
 refine RL.eff (Wanted.free rfl) (E.box _ rfl rfl rfl) rfl ?_
 rintro _ _ ⟨b3, rfl, rfl⟩
 refine RL.nil ?_
 refine SG.seq ?_
 refine SG.region ?_
 refine RL.val (Wanted.free rfl) (V.fieldAddr rfl rfl fo50_1) rfl ?_
 refine RL.val (Wanted.free rfl) (V.load rfl on3 rfl pickX rfl) rfl ?_
 refine RL.val (Wanted.free rfl) (V.buildS [(0, _), (2, _)] rfl bs50 (by exact ⟨rfl, ⟨_, rfl, rfl⟩, ⟨rfl, ⟨_, rfl, rfl⟩, trivial⟩⟩) rfl) rfl ?_
 refine RL.eff (Wanted.free rfl) (E.alloc rfl ze50) rfl ?_
 rintro _ _ ⟨b4, rfl, rfl⟩
 refine RL.eff (Wanted.free rfl) (E.storeWhole rfl rfl rfl (by rfl) sz50 pickX (by first | (simp [Value.oneCell']; done) | (simp [setAt, Value.oneCell']; done)) (by rfl)) rfl ?_
 rintro _ _ rfl
 refine RL.nil ?_
 refine SG.seq ?_
 refine SG.seq ?_
 refine SG.drawL 16 16 wide rfl rfl ?_
 refine RH.val 0 rfl krX krX krX krX (Wanted.free rfl) (V.fieldAddr rfl rfl fo50_3) rfl ?_
 refine RH.val 1 rfl krX krX krX krX (Wanted.free rfl) (V.load rfl on3 rfl pickX rfl) rfl ?_
 refine RH.val 2 rfl krX krX krX krX (Wanted.free rfl) (V.move rfl rfl) rfl ?_
 refine RH.val 3 rfl krX krX krX krX (Wanted.free rfl) (V.nilCheck rfl rfl) rfl ?_
 refine RH.val 4 rfl krX krX krX krX (Wanted.free rfl) (V.fieldAddr rfl rfl fo94_0) rfl ?_
 refine RH.val 5 rfl krX krX krX krX (Wanted.free rfl) (V.fieldAddr rfl rfl fo26_2) rfl ?_
 refine RH.val 6 rfl krX krX krX krX (Wanted.free rfl) (V.load rfl on3 rfl pickX rfl) rfl ?_
 refine RH.cmp 7 rfl krX krX krX krX (Wanted.free rfl) (V.bin rfl rfl rfl B.lss) rfl (fun h14 => ?_) (fun h14 => ?_)
 ·
  refine RH.val 8 rfl krX krX krX krX (Wanted.free rfl) (V.move rfl rfl) rfl ?_
  refine RH.skip 9 rfl krX krX krX krX (Wanted.no rfl rfl rfl rfl rfl) rfl ?_
  refine RH.skip 10 rfl krX krX krX krX (Wanted.no rfl rfl rfl rfl rfl) rfl ?_
  refine RH.skip 11 rfl krX krX krX krX (Wanted.no rfl rfl rfl rfl rfl) rfl ?_
  refine RH.skip 12 rfl krX krX krX krX (Wanted.no rfl rfl rfl rfl rfl) rfl ?_
  refine RH.skip 13 rfl krX krX krX krX (Wanted.no rfl rfl rfl rfl rfl) rfl ?_
  refine RH.skip 14 rfl krX krX krX krX (Wanted.no rfl rfl rfl rfl rfl) rfl ?_
  refine RH.pure 15 rfl krX krX krX krX (Wanted.free rfl) (V.pick_true rfl rfl rfl) rfl ?_
  refine RH.done krX ?_
  refine SG.cond_true rfl ?_
  refine SG.seq ?_
  have hst : Rp.store p m = (p, [noM p m]) := if_pos (by omega)
  rw [hst]
  refine SG.ent (Sl.nil (T := RSlot)) ?_
  refine SG.ent (RMsg.mk (m := ⟨4, 0, m.frm, 0, 0, 0, 0, [], false⟩) memX) ?_
  refine SG.region ?_
  refine RL.val (Wanted.free rfl) (V.move rfl rfl) rfl ?_
  refine RL.val (Wanted.free rfl) (V.loadAgg (us := mv ⟨4, 0, m.frm, 0, 0, 0, 0, [], false⟩ (.slice none 0 0)) rfl ag50 rfl pickX rfl rfl) rfl ?_
  refine RL.eff (Wanted.free rfl) (E.call rfl go58 rfl (send_ok (p := p) (m := ⟨4, 0, m.frm, 0, 0, 0, 0, [], false⟩) (by repeat (first | exact Ent.refl _ | (apply Ent.cons; (· repeat (first | exact Pick.here | (refine Pick.sl ?_; (· repeat (first | exact List.Mem.head _ | assumption | apply List.Mem.tail))) | apply Pick.there))) | (refine Ent.trans (Ent.drop _ _) ?_))) memX (by omega))) rfl ?_
  rintro _ _ ⟨a30, c30, rfl, rfl⟩
  refine RL.nil ?_
  refine SG.retE (Ret.none Try.func72 rfl) ?_ ⟨rfl, rfl⟩
  first | (refine Nd.ent (la := la) (ln := p.log.length) (lc := lc) (va := va) (vn := p.votes.length) (vc := vc) (ma := ma) (mn := p.mtch.length) (mc := mc) (oa := a30) (on := out.length + 1) (oc := c30) ?_; repeat (first | exact Ent.refl _ | (apply Ent.cons; (· repeat (first | exact Pick.here | (refine Pick.sl ?_; (· repeat (first | exact List.Mem.head _ | assumption | apply List.Mem.tail))) | apply Pick.there))) | (refine Ent.trans (Ent.drop _ _) ?_))) | (refine Nd.ent (la := la) (ln := p.log.length) (lc := lc) (va := none) (vn := 0) (vc := 0) (ma := ma) (mn := p.mtch.length) (mc := mc) (oa := a64) (on := out.length + 1) (oc := c64) ?_; repeat (first | exact Ent.refl _ | (apply Ent.cons; (· repeat (first | exact Pick.here | (refine Pick.sl ?_; (· repeat (first | exact List.Mem.head _ | assumption | apply List.Mem.tail))) | apply Pick.there))) | (refine Ent.trans (Ent.drop _ _) ?_)))
 ·
  refine RH.val 8 rfl krX krX krX krX (Wanted.free rfl) (V.move rfl rfl) rfl ?_
  refine RH.val 9 rfl krX krX krX krX (Wanted.yes rfl rfl rfl rfl) (V.move rfl rfl) rfl ?_
  refine RH.val 10 rfl krX krX krX krX (Wanted.yes rfl rfl rfl rfl) (V.nilCheck rfl rfl) rfl ?_
  refine RH.val 11 rfl krX krX krX krX (Wanted.yes rfl rfl rfl rfl) (V.fieldAddr rfl rfl fo94_0) rfl ?_
  refine RH.val 12 rfl krX krX krX krX (Wanted.yes rfl rfl rfl rfl) (V.fieldAddr rfl rfl fo26_4) rfl ?_
  refine RH.val 13 rfl krX krX krX krX (Wanted.yes rfl rfl rfl rfl) (V.load rfl on3 rfl pickX rfl) rfl ?_
  refine RH.cmp 14 rfl krX krX krX krX (Wanted.yes rfl rfl rfl rfl) (V.bin rfl rfl rfl B.eql) rfl (fun h25 => ?_) (fun h25 => ?_)
  ·
   refine RH.pure 15 rfl krX krX krX krX (Wanted.free rfl) (V.pick_false rfl rfl rfl) rfl ?_
   refine RH.done krX ?_
   refine SG.cond_true rfl ?_
   refine SG.seq ?_
   have hst : Rp.store p m = (p, [noM p m]) := if_pos (by omega)
   rw [hst]
   refine SG.ent (Sl.nil (T := RSlot)) ?_
   refine SG.ent (RMsg.mk (m := ⟨4, 0, m.frm, 0, 0, 0, 0, [], false⟩) memX) ?_
   refine SG.region ?_
   refine RL.val (Wanted.free rfl) (V.move rfl rfl) rfl ?_
   refine RL.val (Wanted.free rfl) (V.loadAgg (us := mv ⟨4, 0, m.frm, 0, 0, 0, 0, [], false⟩ (.slice none 0 0)) rfl ag50 rfl pickX rfl rfl) rfl ?_
   refine RL.eff (Wanted.free rfl) (E.call rfl go58 rfl (send_ok (p := p) (m := ⟨4, 0, m.frm, 0, 0, 0, 0, [], false⟩) (by repeat (first | exact Ent.refl _ | (apply Ent.cons; (· repeat (first | exact Pick.here | (refine Pick.sl ?_; (· repeat (first | exact List.Mem.head _ | assumption | apply List.Mem.tail))) | apply Pick.there))) | (refine Ent.trans (Ent.drop _ _) ?_))) memX (by omega))) rfl ?_
   rintro _ _ ⟨a30, c30, rfl, rfl⟩
   refine RL.nil ?_
   refine SG.retE (Ret.none Try.func72 rfl) ?_ ⟨rfl, rfl⟩
   first | (refine Nd.ent (la := la) (ln := p.log.length) (lc := lc) (va := va) (vn := p.votes.length) (vc := vc) (ma := ma) (mn := p.mtch.length) (mc := mc) (oa := a30) (on := out.length + 1) (oc := c30) ?_; repeat (first | exact Ent.refl _ | (apply Ent.cons; (· repeat (first | exact Pick.here | (refine Pick.sl ?_; (· repeat (first | exact List.Mem.head _ | assumption | apply List.Mem.tail))) | apply Pick.there))) | (refine Ent.trans (Ent.drop _ _) ?_))) | (refine Nd.ent (la := la) (ln := p.log.length) (lc := lc) (va := none) (vn := 0) (vc := 0) (ma := ma) (mn := p.mtch.length) (mc := mc) (oa := a64) (on := out.length + 1) (oc := c64) ?_; repeat (first | exact Ent.refl _ | (apply Ent.cons; (· repeat (first | exact Pick.here | (refine Pick.sl ?_; (· repeat (first | exact List.Mem.head _ | assumption | apply List.Mem.tail))) | apply Pick.there))) | (refine Ent.trans (Ent.drop _ _) ?_)))
  ·
   refine RH.pure 15 rfl krX krX krX krX (Wanted.free rfl) (V.pick_false rfl rfl rfl) rfl ?_
   refine RH.done krX ?_
   refine SG.cond_false rfl ?_
   refine SG.skip ?_
   refine SG.seq ?_
   have hst1 : ¬ (m.term < p.term ∨ p.role = 2) := by omega
   refine SG.region ?_
   refine RL.val (Wanted.free rfl) (V.move rfl rfl) rfl ?_
   refine RL.val (Wanted.free rfl) (V.move rfl rfl) rfl ?_
   refine RL.val (Wanted.free rfl) (V.nilCheck rfl rfl) rfl ?_
   refine RL.val (Wanted.free rfl) (V.fieldAddr rfl rfl fo94_0) rfl ?_
   refine RL.val (Wanted.free rfl) (V.fieldAddr rfl rfl fo26_4) rfl ?_
   refine RL.eff (Wanted.free rfl) (E.store1 rfl rfl rfl rfl rfl sz3 pickX rfl) rfl ?_
   rintro _ _ rfl
   refine RL.val (Wanted.free rfl) (V.nilCheck rfl rfl) rfl ?_
   refine RL.val (Wanted.free rfl) (V.fieldAddr rfl rfl fo94_0) rfl ?_
   refine RL.val (Wanted.free rfl) (V.fieldAddr rfl rfl fo26_7) rfl ?_
   refine RL.eff (Wanted.free rfl) (E.store1 rfl rfl rfl rfl rfl sz24 pickX rfl) rfl ?_
   rintro _ _ rfl
   refine RL.nil ?_
   refine SG.seq ?_
   refine SG.seq ?_
   refine SG.ent (Buf.nil (T := RB) (e := 4)) ?_
   refine SG.ent (?_ : Ent _ (Blk b 94 (nv (followP p) (.slice la p.log.length lc) (.slice none 0 0) (.slice ma p.mtch.length mc) (.slice oa out.length oc)) :: Buf RSlot 53 la p.log.length lc p.log :: Buf RB 4 none 0 0 [] :: Buf RI 3 ma p.mtch.length mc p.mtch :: Buf RMsg 50 oa out.length oc out :: Blk b4 50 (mv ⟨4, 0, m.frm, 0, 0, 0, 0, [], false⟩ (.slice none 0 0)) :: Blk b3 50 (mv m (.slice sa m.slots.length sc)) :: Sl RSlot sa m.slots.length sc m.slots :: L1)) ?_
   ·
    exact entX
   refine SG.drawL 23 23 wide rfl rfl ?_
   refine RH.val 0 rfl krX krX krX krX (Wanted.free rfl) (V.fieldAddr rfl rfl fo50_4) rfl ?_
   refine RH.val 1 rfl krX krX krX krX (Wanted.free rfl) (V.load rfl on3 rfl pickX rfl) rfl ?_
   refine RH.val 2 rfl krX krX krX krX (Wanted.free rfl) (V.move rfl rfl) rfl ?_
   refine RH.val 3 rfl krX krX krX krX (Wanted.free rfl) (V.nilCheck rfl rfl) rfl ?_
   refine RH.val 4 rfl krX krX krX krX (Wanted.free rfl) (V.fieldAddr rfl rfl fo94_0) rfl ?_
   refine RH.val 5 rfl krX krX krX krX (Wanted.free rfl) (V.fieldAddr rfl rfl fo26_6) rfl ?_
   refine RH.val 6 rfl krX krX krX krX (Wanted.free rfl) (V.load rfl on23 rfl pickX rfl) rfl ?_
   refine RH.val 7 rfl krX krX krX krX (Wanted.free rfl) (V.len rfl rfl el23.under rfl) rfl ?_
   refine RH.cmp 8 rfl krX krX krX krX (Wanted.free rfl) (V.bin rfl rfl rfl B.gtr) rfl (fun h47 => ?_) (fun h47 => ?_)
   ·
    refine RH.val 9 rfl krX krX krX krX (Wanted.free rfl) (V.move rfl rfl) rfl ?_
    refine RH.skip 10 rfl krX krX krX krX (Wanted.no rfl rfl rfl rfl rfl) rfl ?_
    refine RH.skip 11 rfl krX krX krX krX (Wanted.no rfl rfl rfl rfl rfl) rfl ?_
    refine RH.skip 12 rfl krX krX krX krX (Wanted.no rfl rfl rfl rfl rfl) rfl ?_
    refine RH.skip 13 rfl krX krX krX krX (Wanted.no rfl rfl rfl rfl rfl) rfl ?_
    refine RH.skip 14 rfl krX krX krX krX (Wanted.un rfl rfl rfl) rfl ?_
    refine RH.skip 15 rfl krX krX krX krX (Wanted.un rfl rfl rfl) rfl ?_
    refine RH.skip 16 rfl krX krX krX krX (Wanted.un rfl rfl rfl) rfl ?_
    refine RH.skip 17 rfl krX krX krX krX (Wanted.un rfl rfl rfl) rfl ?_
    refine RH.skip 18 rfl krX krX krX krX (Wanted.un rfl rfl rfl) rfl ?_
    refine RH.skip 19 rfl krX krX krX krX (Wanted.un rfl rfl rfl) rfl ?_
    refine RH.skip 20 rfl krX krX krX krX (Wanted.un rfl rfl rfl) rfl ?_
    refine RH.skip 21 rfl krX krX krX krX (Wanted.no rfl rfl rfl rfl rfl) rfl ?_
    refine RH.pure 22 rfl krX krX krX krX (Wanted.free rfl) (V.pick_true rfl rfl rfl) rfl ?_
    refine RH.done krX ?_
    refine SG.cond_true rfl ?_
    refine SG.seq ?_
    have hst : Rp.store p m = (followP p, [noM p m]) := by rw [Rp.store, if_neg hst1, if_pos (by unfold misses; omega)]
    rw [hst]
    refine SG.ent (Sl.nil (T := RSlot)) ?_
    refine SG.ent (RMsg.mk (m := ⟨4, 0, m.frm, 0, 0, 0, 0, [], false⟩) memX) ?_
    refine SG.region ?_
    refine RL.val (Wanted.free rfl) (V.move rfl rfl) rfl ?_
    refine RL.val (Wanted.free rfl) (V.loadAgg (us := mv ⟨4, 0, m.frm, 0, 0, 0, 0, [], false⟩ (.slice none 0 0)) rfl ag50 rfl pickX rfl rfl) rfl ?_
    refine RL.eff (Wanted.free rfl) (E.call rfl go58 rfl (send_ok (p := (followP p)) (m := ⟨4, 0, m.frm, 0, 0, 0, 0, [], false⟩) (by repeat (first | exact Ent.refl _ | (apply Ent.cons; (· repeat (first | exact Pick.here | (refine Pick.sl ?_; (· repeat (first | exact List.Mem.head _ | assumption | apply List.Mem.tail))) | apply Pick.there))) | (refine Ent.trans (Ent.drop _ _) ?_))) memX (by omega))) rfl ?_
    rintro _ _ ⟨a64, c64, rfl, rfl⟩
    refine RL.nil ?_
    refine SG.retE (Ret.none Try.func72 rfl) ?_ ⟨rfl, rfl⟩
    first | (refine Nd.ent (la := la) (ln := p.log.length) (lc := lc) (va := va) (vn := p.votes.length) (vc := vc) (ma := ma) (mn := p.mtch.length) (mc := mc) (oa := a30) (on := out.length + 1) (oc := c30) ?_; repeat (first | exact Ent.refl _ | (apply Ent.cons; (· repeat (first | exact Pick.here | (refine Pick.sl ?_; (· repeat (first | exact List.Mem.head _ | assumption | apply List.Mem.tail))) | apply Pick.there))) | (refine Ent.trans (Ent.drop _ _) ?_))) | (refine Nd.ent (la := la) (ln := p.log.length) (lc := lc) (va := none) (vn := 0) (vc := 0) (ma := ma) (mn := p.mtch.length) (mc := mc) (oa := a64) (on := out.length + 1) (oc := c64) ?_; repeat (first | exact Ent.refl _ | (apply Ent.cons; (· repeat (first | exact Pick.here | (refine Pick.sl ?_; (· repeat (first | exact List.Mem.head _ | assumption | apply List.Mem.tail))) | apply Pick.there))) | (refine Ent.trans (Ent.drop _ _) ?_)))
   ·
    refine RH.val 9 rfl krX krX krX krX (Wanted.free rfl) (V.move rfl rfl) rfl ?_
    refine RH.val 10 rfl krX krX krX krX (Wanted.yes rfl rfl rfl rfl) (V.fieldAddr rfl rfl fo50_4) rfl ?_
    refine RH.val 11 rfl krX krX krX krX (Wanted.yes rfl rfl rfl rfl) (V.load rfl on3 rfl pickX rfl) rfl ?_
    refine RH.cmp 12 rfl krX krX krX krX (Wanted.yes rfl rfl rfl rfl) (V.bin rfl rfl rfl B.gtr) rfl (fun h55 => ?_) (fun h55 => ?_)
    ·
     refine RH.val 13 rfl krX krX krX krX (Wanted.yes rfl rfl rfl rfl) (V.move rfl rfl) rfl ?_
     refine RH.val 14 rfl krX krX krX krX (Wanted.yes rfl rfl rfl rfl) (V.move rfl rfl) rfl ?_
     refine RH.val 15 rfl krX krX krX krX (Wanted.yes rfl rfl rfl rfl) (V.fieldAddr rfl rfl fo50_4) rfl ?_
     refine RH.val 16 rfl krX krX krX krX (Wanted.yes rfl rfl rfl rfl) (V.load rfl on3 rfl pickX rfl) rfl ?_
     refine RH.val 18 rfl krX krX krX krX (Wanted.yes rfl rfl rfl rfl) (V.fieldAddr rfl rfl fo50_5) rfl ?_
     refine RH.val 19 rfl krX krX krX krX (Wanted.yes rfl rfl rfl rfl) (V.load rfl on3 rfl pickX rfl) rfl ?_
     refine RH.one (i := 17) krX ?_
     refine RHone.eff rfl (Wanted.yes rfl rfl rfl rfl) (E.call rfl go59 rfl (term_ok (p := followP p) (i := m.index) pickX pickX (by omega) (by show m.index ≤ (p.log.length : Int); omega))) rfl ?_
     rintro _ _ ⟨rfl, rfl⟩
     refine ⟨.inr entX, ?_⟩
     refine RH.cmp 20 rfl krX krX krX krX (Wanted.yes rfl rfl rfl rfl) (V.bin rfl rfl rfl B.neq) rfl (fun h63 => ?_) (fun h63 => ?_)
     ·
      have hmt : termAt p.log m.index ≠ m.prev := h63
      refine RH.pure 21 rfl krX krX krX krX (Wanted.yes rfl rfl rfl rfl) (V.pick_true rfl rfl rfl) rfl ?_
      refine RH.pure 22 rfl krX krX krX krX (Wanted.free rfl) (V.pick_false rfl rfl rfl) rfl ?_
      refine RH.done krX ?_
      refine SG.cond_true rfl ?_
      refine SG.seq ?_
      have hst : Rp.store p m = (followP p, [noM p m]) := by rw [Rp.store, if_neg hst1, if_pos (by unfold misses; omega)]
      rw [hst]
      refine SG.ent (Sl.nil (T := RSlot)) ?_
      refine SG.ent (RMsg.mk (m := ⟨4, 0, m.frm, 0, 0, 0, 0, [], false⟩) memX) ?_
      refine SG.region ?_
      refine RL.val (Wanted.free rfl) (V.move rfl rfl) rfl ?_
      refine RL.val (Wanted.free rfl) (V.loadAgg (us := mv ⟨4, 0, m.frm, 0, 0, 0, 0, [], false⟩ (.slice none 0 0)) rfl ag50 rfl pickX rfl rfl) rfl ?_
      refine RL.eff (Wanted.free rfl) (E.call rfl go58 rfl (send_ok (p := (followP p)) (m := ⟨4, 0, m.frm, 0, 0, 0, 0, [], false⟩) (by repeat (first | exact Ent.refl _ | (apply Ent.cons; (· repeat (first | exact Pick.here | (refine Pick.sl ?_; (· repeat (first | exact List.Mem.head _ | assumption | apply List.Mem.tail))) | apply Pick.there))) | (refine Ent.trans (Ent.drop _ _) ?_))) memX (by omega))) rfl ?_
      rintro _ _ ⟨a64, c64, rfl, rfl⟩
      refine RL.nil ?_
      refine SG.retE (Ret.none Try.func72 rfl) ?_ ⟨rfl, rfl⟩
      first | (refine Nd.ent (la := la) (ln := p.log.length) (lc := lc) (va := va) (vn := p.votes.length) (vc := vc) (ma := ma) (mn := p.mtch.length) (mc := mc) (oa := a30) (on := out.length + 1) (oc := c30) ?_; repeat (first | exact Ent.refl _ | (apply Ent.cons; (· repeat (first | exact Pick.here | (refine Pick.sl ?_; (· repeat (first | exact List.Mem.head _ | assumption | apply List.Mem.tail))) | apply Pick.there))) | (refine Ent.trans (Ent.drop _ _) ?_))) | (refine Nd.ent (la := la) (ln := p.log.length) (lc := lc) (va := none) (vn := 0) (vc := 0) (ma := ma) (mn := p.mtch.length) (mc := mc) (oa := a64) (on := out.length + 1) (oc := c64) ?_; repeat (first | exact Ent.refl _ | (apply Ent.cons; (· repeat (first | exact Pick.here | (refine Pick.sl ?_; (· repeat (first | exact List.Mem.head _ | assumption | apply List.Mem.tail))) | apply Pick.there))) | (refine Ent.trans (Ent.drop _ _) ?_)))
     ·
      have hmt : termAt p.log m.index = m.prev := Decidable.byContradiction fun e => h63 e
      refine RH.pure 21 rfl krX krX krX krX (Wanted.yes rfl rfl rfl rfl) (V.pick_true rfl rfl rfl) rfl ?_
      refine RH.pure 22 rfl krX krX krX krX (Wanted.free rfl) (V.pick_false rfl rfl rfl) rfl ?_
      refine RH.done krX ?_
      refine SG.cond_false rfl ?_
      refine SG.skip ?_
      refine SG.seq ?_
      have hst : Rp.store p m = (storeP (followP p) m, [yesM p m]) := by rw [Rp.store, if_neg hst1, if_neg (by unfold misses; omega)]
      have hle : m.index ≤ p.log.length := by omega
      obtain ⟨x, hx⟩ := Int.eq_ofNat_of_zero_le hx0
      rw [hst]
      refine SG.region ?_
      refine RL.val (Wanted.free rfl) (V.fieldAddr rfl rfl fo50_4) rfl ?_
      refine RL.val (Wanted.free rfl) (V.load rfl on3 rfl pickX rfl) rfl ?_
      refine RL.val (Wanted.free rfl) (V.fieldAddr rfl rfl fo50_7) rfl ?_
      refine RL.val (Wanted.free rfl) (V.load rfl on23 rfl pickX rfl) rfl ?_
      refine RL.val (Wanted.free rfl) (V.len rfl rfl el23.under rfl) rfl ?_
      refine RL.val (Wanted.free rfl) (V.bin rfl rfl rfl (B.addI (by omega) (by omega))) rfl ?_
      refine RL.val (Wanted.free rfl) (V.assign rfl rfl) rfl ?_
      refine RL.nil ?_
      refine SG.seq ?_
      refine SG.seq ?_
      refine SG.region ?_
      refine RL.val (Wanted.free rfl) (V.fieldAddr rfl rfl fo50_7) rfl ?_
      refine RL.val (Wanted.free rfl) (V.load rfl on23 rfl pickX rfl) rfl ?_
      refine RL.val (Wanted.free rfl) (V.len rfl rfl el23.under rfl) rfl ?_
      refine RL.val (Wanted.free rfl) (V.move rfl rfl) rfl ?_
      refine RL.nil ?_
      refine SG.join (ι := Option Addr × Nat) (fun ⟨ja, jc⟩ => [(0, ptr b 0), (3, ptr b3 0), (5, vI (ends m))]) (fun ⟨ja, jc⟩ => Blk b 94 (nv ({ (followP p) with log := merge p.log m.index.toNat m.slots } : Peer) (.slice ja (merge p.log m.index.toNat m.slots).length jc) (.slice none 0 0) (.slice ma p.mtch.length mc) (.slice oa out.length oc)) :: Buf RSlot 53 ja (merge p.log m.index.toNat m.slots).length jc (merge p.log m.index.toNat m.slots) :: Buf RB 4 none 0 0 [] :: Buf RI 3 ma p.mtch.length mc p.mtch :: Buf RMsg 50 oa out.length oc out :: Blk b3 50 (mv m (.slice sa m.slots.length sc)) :: Sl RSlot sa m.slots.length sc m.slots :: L1) (fun ⟨ja, jc⟩ => True) ?_ (fun rest => ?_)
      ·
       rintro ⟨ja, jc⟩ _
       try dsimp only
       refine SG.seq ?_
       refine SG.drawL 15 14 wide rfl rfl ?_
       refine RH.val 0 rfl krX krX krX krX (Wanted.free rfl) (V.move rfl rfl) rfl ?_
       refine RH.val 1 rfl krX krX krX krX (Wanted.free rfl) (V.move rfl rfl) rfl ?_
       refine RH.val 2 rfl krX krX krX krX (Wanted.free rfl) (V.nilCheck rfl rfl) rfl ?_
       refine RH.val 3 rfl krX krX krX krX (Wanted.free rfl) (V.fieldAddr rfl rfl fo94_0) rfl ?_
       refine RH.val 4 rfl krX krX krX krX (Wanted.free rfl) (V.fieldAddr rfl rfl fo26_5) rfl ?_
       refine RH.val 5 rfl krX krX krX krX (Wanted.free rfl) (V.load rfl on3 rfl pickX rfl) rfl ?_
       refine RH.val 6 rfl krX krX krX krX (Wanted.free rfl) (V.fieldAddr rfl rfl fo50_6) rfl ?_
       refine RH.val 7 rfl krX krX krX krX (Wanted.free rfl) (V.load rfl on3 rfl pickX rfl) rfl ?_
       refine RH.val 8 rfl krX krX krX krX (Wanted.free rfl) (V.move rfl rfl) rfl ?_
       refine RH.val 9 rfl krX krX krX krX (Wanted.free rfl) (V.min rfl rfl rfl rfl) rfl ?_
       refine RH.val 10 rfl krX krX krX krX (Wanted.free rfl) (V.max rfl rfl rfl rfl) rfl ?_
       refine RH.pure 11 rfl krX krX krX krX (Wanted.free rfl) (V.nilCheck rfl rfl) rfl ?_
       refine RH.pure 12 rfl krX krX krX krX (Wanted.free rfl) (V.fieldAddr rfl rfl fo94_0) rfl ?_
       refine RH.val 13 rfl krX krX krX krX (Wanted.free rfl) (V.fieldAddr rfl rfl fo26_5) rfl ?_
       refine RH.one (i := 14) krX ?_
       refine RHone.eff rfl (Wanted.free rfl) (E.store1 rfl rfl rfl rfl rfl sz3 pickX rfl) rfl ?_
       rintro _ _ rfl
       refine ⟨.inl krX, ?_⟩
       refine RH.done krX ?_
       rw [mm_eq]
       refine SG.ent (?_ : Ent _ (Blk b 94 (nv (storeP (followP p) m) (.slice ja (merge p.log m.index.toNat m.slots).length jc) (.slice none 0 0) (.slice ma p.mtch.length mc) (.slice oa out.length oc)) :: Buf RSlot 53 ja (merge p.log m.index.toNat m.slots).length jc (merge p.log m.index.toNat m.slots) :: Buf RB 4 none 0 0 [] :: Buf RI 3 ma p.mtch.length mc p.mtch :: Buf RMsg 50 oa out.length oc out :: Blk b3 50 (mv m (.slice sa m.slots.length sc)) :: L1)) ?_
       ·
        exact entX
       refine SG.ent (Sl.nil (T := RSlot)) ?_
       refine SG.ent (RMsg.mk (m := ⟨4, 0, m.frm, 0, ends m, 0, 0, [], true⟩) memX) ?_
       refine SG.region ?_
       refine RL.val (Wanted.free rfl) (V.move rfl rfl) rfl ?_
       refine RL.val (Wanted.free rfl) (V.fieldAddr rfl rfl fo50_1) rfl ?_
       refine RL.val (Wanted.free rfl) (V.load rfl on3 rfl pickX rfl) rfl ?_
       refine RL.val (Wanted.free rfl) (V.move rfl rfl) rfl ?_
       refine RL.val (Wanted.free rfl) (V.buildS [(0, _), (2, _), (4, _), (8, _)] rfl bs50 (by exact ⟨rfl, ⟨_, rfl, rfl⟩, ⟨rfl, ⟨_, rfl, rfl⟩, ⟨rfl, ⟨_, rfl, rfl⟩, ⟨rfl, ⟨_, rfl, rfl⟩, trivial⟩⟩⟩⟩) rfl) rfl ?_
       refine RL.eff (Wanted.free rfl) (E.call rfl go58 rfl (send_ok (p := (storeP (followP p) m)) (m := ⟨4, 0, m.frm, 0, ends m, 0, 0, [], true⟩) (by repeat (first | exact Ent.refl _ | (apply Ent.cons; (· repeat (first | exact Pick.here | (refine Pick.sl ?_; (· repeat (first | exact List.Mem.head _ | assumption | apply List.Mem.tail))) | apply Pick.there))) | (refine Ent.trans (Ent.drop _ _) ?_))) memX (by omega))) rfl ?_
       rintro _ _ ⟨a141, c141, rfl, rfl⟩
       refine RL.nil ?_
       refine SG.doneE (Ret.none Try.func72 rfl) ?_ ⟨rfl, rfl⟩
       refine Nd.ent (la := ja) (ln := (merge p.log m.index.toNat m.slots).length) (lc := jc) (va := none) (vn := 0) (vc := 0) (ma := ma) (mn := p.mtch.length) (mc := mc) (oa := a141) (on := out.length + 1) (oc := c141) ?_
       exact entX
      ·
       refine SG.block ?_
       refine SG.weaken (SG.loop2 (fun m0 al M => ∃ i : Nat, i ≤ m.slots.length ∧ x + i ≤ p.log.length ∧ (∀ j, j < i → ∃ y z, p.log[x + j]? = some y ∧ m.slots[j]? = some z ∧ y.term = z.term) ∧ m0 = m.slots.length - i ∧ al = [(0, ptr b 0), (3, ptr b3 0), (5, vI (ends m)), (72, .slice sa m.slots.length sc), (73, vI m.slots.length), (74, vI i)] ∧ M = Blk b 94 (nv (followP p) (.slice la p.log.length lc) (.slice none 0 0) (.slice ma p.mtch.length mc) (.slice oa out.length oc)) :: Buf RSlot 53 la p.log.length lc p.log :: Buf RB 4 none 0 0 [] :: Buf RI 3 ma p.mtch.length mc p.mtch :: Buf RMsg 50 oa out.length oc out :: Blk b3 50 (mv m (.slice sa m.slots.length sc)) :: Sl RSlot sa m.slots.length sc m.slots :: L1) (m0 := _) ⟨0, by omega, by omega, fun j h => by omega, rfl, rfl, rfl⟩ ?_) ?_ ?_
       rotate_left
       ·
        repeat (first | exact EnvLe.nil _ | refine EnvLe.cons rfl ?_)
       ·
        exact entX
       rintro _ _ _ ⟨i, hi, hxi, hsame, rfl, rfl, rfl⟩ ih0
       refine SG.seq ?_
       refine SG.region ?_
       refine RL.cmp (Wanted.free rfl) (V.bin rfl rfl rfl B.lss) rfl (fun h99 => ?_) (fun h99 => ?_)
       ·
        refine RL.nil ?_
        refine SG.seq ?_
        refine SG.cond_true rfl ?_
        refine SG.skip ?_
        refine SG.seq ?_
        refine SG.block ?_
        refine SG.seq ?_
        refine SG.elemDt (a := sa) (l := m.slots) memX (show m.slots[i]? = some (m.slots[i]'(by omega)) from List.getElem?_eq_getElem (by omega)) fun _ => ?_
        refine SG.region ?_
        refine RL.val (Wanted.free rfl) (V.move rfl rfl) rfl ?_
        refine RL.val (Wanted.free rfl) (V.indexSl (j := i) rfl el23.slice rfl rfl memX (by first | rfl | omega) (by omega)) rfl ?_
        refine RL.val (Wanted.free rfl) (V.loadAt (a := sa) (k := i * 2) rfl ag53 rfl memX rfl) rfl ?_
        refine RL.eff (Wanted.free rfl) (E.alloc rfl ze53) rfl ?_
        rintro _ _ ⟨b7, rfl, rfl⟩
        refine RL.val (Wanted.free rfl) (V.assign rfl rfl) rfl ?_
        refine RL.eff (Wanted.free rfl) (E.storeWhole rfl rfl rfl (by rfl) sz53 pickX (by first | (simp [Value.oneCell']; done) | (simp [setAt, Value.oneCell']; done)) (by rfl)) rfl ?_
        rintro _ _ rfl
        refine RL.nil ?_
        refine SG.seq ?_
        refine SG.region ?_
        refine RL.val (Wanted.free rfl) (V.fieldAddr rfl rfl fo50_4) rfl ?_
        refine RL.val (Wanted.free rfl) (V.load rfl on3 rfl pickX rfl) rfl ?_
        refine RL.val (Wanted.free rfl) (V.move rfl rfl) rfl ?_
        refine RL.val (Wanted.free rfl) (V.bin rfl rfl rfl (B.addI (by omega) (by omega))) rfl ?_
        refine RL.val (Wanted.free rfl) (V.assign rfl rfl) rfl ?_
        refine RL.nil ?_
        refine SG.seq ?_
        refine SG.drawL 22 22 wide rfl rfl ?_
        refine RH.val 0 rfl krX krX krX krX (Wanted.free rfl) (V.move rfl rfl) rfl ?_
        refine RH.val 1 rfl krX krX krX krX (Wanted.free rfl) (V.move rfl rfl) rfl ?_
        refine RH.val 2 rfl krX krX krX krX (Wanted.free rfl) (V.nilCheck rfl rfl) rfl ?_
        refine RH.val 3 rfl krX krX krX krX (Wanted.free rfl) (V.fieldAddr rfl rfl fo94_0) rfl ?_
        refine RH.val 4 rfl krX krX krX krX (Wanted.free rfl) (V.fieldAddr rfl rfl fo26_6) rfl ?_
        refine RH.val 5 rfl krX krX krX krX (Wanted.free rfl) (V.load rfl on23 rfl pickX rfl) rfl ?_
        refine RH.val 6 rfl krX krX krX krX (Wanted.free rfl) (V.len rfl rfl el23.under rfl) rfl ?_
        refine RH.cmp 7 rfl krX krX krX krX (Wanted.free rfl) (V.bin rfl rfl rfl B.geq) rfl (fun h118 => ?_) (fun h118 => ?_)
        ·
         refine RH.val 8 rfl krX krX krX krX (Wanted.free rfl) (V.move rfl rfl) rfl ?_
         refine RH.skip 9 rfl krX krX krX krX (Wanted.no rfl rfl rfl rfl rfl) rfl ?_
         refine RH.skip 10 rfl krX krX krX krX (Wanted.no rfl rfl rfl rfl rfl) rfl ?_
         refine RH.skip 11 rfl krX krX krX krX (Wanted.no rfl rfl rfl rfl rfl) rfl ?_
         refine RH.skip 12 rfl krX krX krX krX (Wanted.no rfl rfl rfl rfl rfl) rfl ?_
         refine RH.skip 13 rfl krX krX krX krX (Wanted.no rfl rfl rfl rfl rfl) rfl ?_
         refine RH.skip 14 rfl krX krX krX krX (Wanted.no rfl rfl rfl rfl rfl) rfl ?_
         refine RH.skip 15 rfl krX krX krX krX (Wanted.no rfl rfl rfl rfl rfl) rfl ?_
         refine RH.skip 16 rfl krX krX krX krX (Wanted.no rfl rfl rfl rfl rfl) rfl ?_
         refine RH.skip 17 rfl krX krX krX krX (Wanted.no rfl rfl rfl rfl rfl) rfl ?_
         refine RH.skip 18 rfl krX krX krX krX (Wanted.no rfl rfl rfl rfl rfl) rfl ?_
         refine RH.skip 19 rfl krX krX krX krX (Wanted.no rfl rfl rfl rfl rfl) rfl ?_
         refine RH.skip 20 rfl krX krX krX krX (Wanted.no rfl rfl rfl rfl rfl) rfl ?_
         refine RH.pure 21 rfl krX krX krX krX (Wanted.free rfl) (V.pick_true rfl rfl rfl) rfl ?_
         refine RH.done krX ?_
         refine SG.cond_true rfl ?_
         refine SG.seq ?_
         refine SG.cut (lo := i) (hi := m.slots.length) (l' := m.slots.drop i) (a := sa) (T := RSlot) memX (by omega) (by omega) (List.take_of_length_le (by simp)) ?_
         have hmg : merge p.log m.index.toNat m.slots = p.log.take (x + i) ++ m.slots.drop i := by rw [merge_at (i := i) (by omega) (by rw [show m.index.toNat = x from by omega]; exact hsame), show m.index.toNat = x from by omega]; exact merge_stop (by omega) (by first | (left; omega) | (right; exact ⟨by omega, by omega⟩))
         refine SG.drawN 17 16 (Blk b 94 (nv (followP p) (.slice la p.log.length lc) (.slice none 0 0) (.slice ma p.mtch.length mc) (.slice oa out.length oc)) :: Blk b3 50 (mv m (.slice sa m.slots.length sc)) :: L1) wide rfl rfl (by repeat (first | exact Ent.refl _ | (apply Ent.cons; (· repeat (first | exact Pick.here | (refine Pick.sl ?_; (· repeat (first | exact List.Mem.head _ | assumption | apply List.Mem.tail))) | apply Pick.there))) | (refine Ent.trans (Ent.drop _ _) ?_))) ?_
         refine RH.val 0 rfl krX krX krX krX (Wanted.free rfl) (V.move rfl rfl) rfl ?_
         refine RH.val 1 rfl krX krX krX krX (Wanted.free rfl) (V.move rfl rfl) rfl ?_
         refine RH.val 2 rfl krX krX krX krX (Wanted.free rfl) (V.nilCheck rfl rfl) rfl ?_
         refine RH.val 3 rfl krX krX krX krX (Wanted.free rfl) (V.fieldAddr rfl rfl fo94_0) rfl ?_
         refine RH.val 4 rfl krX krX krX krX (Wanted.free rfl) (V.fieldAddr rfl rfl fo26_6) rfl ?_
         refine RH.val 5 rfl krX krX krX krX (Wanted.free rfl) (V.load rfl on23 rfl pickX rfl) rfl ?_
         refine RH.val 6 rfl krX krX krX krX (Wanted.free rfl) (V.move rfl rfl) rfl ?_
         refine RH.val 7 rfl krX krX krX krX (Wanted.free rfl) (V.sliceTo (hi := x + i) rfl el23.slice rfl ⟨_, _, rfl, (by omega)⟩ (by omega)) rfl ?_
         refine RH.val 8 rfl krX krX krX krX (Wanted.free rfl) (V.fieldAddr rfl rfl fo50_7) rfl ?_
         refine RH.val 9 rfl krX krX krX krX (Wanted.free rfl) (V.load rfl on23 rfl pickX rfl) rfl ?_
         refine RH.val 10 rfl krX krX krX krX (Wanted.free rfl) (V.move rfl rfl) rfl ?_
         refine RH.val 11 rfl krX krX krX krX (Wanted.free rfl) (V.slice (T := RSlot) (lo := i) (hi := m.slots.length) rfl el23.slice rfl ⟨_, _, rfl, (by first | rfl | omega)⟩ rfl (by omega) (by omega)) rfl ?_
         refine RH.ent (Ent.trans pickX (Buf.cut (m' := x + i) (by omega))) ?_
         refine RH.one (i := 12) krX ?_
         refine RHone.eff rfl (Wanted.free rfl) (E.append (T := RSlot) rfl rfl rfl el23 el23.noInt rfl rfl pickX (Src.sl (l := m.slots.drop i) (by decide) memX) (by first | omega | (simp; omega)) (by first | omega | (simp; omega))) rfl ?_
         intro _ _ hK132
         try rw [List.nil_append] at hK132
         try rw [Nat.zero_add] at hK132
         obtain ⟨a117, c117, rfl, rfl⟩ := hK132
         refine ⟨.inr entX, ?_⟩
         refine RH.pure 13 rfl krX krX krX krX (Wanted.free rfl) (V.nilCheck rfl rfl) rfl ?_
         refine RH.pure 14 rfl krX krX krX krX (Wanted.free rfl) (V.fieldAddr rfl rfl fo94_0) rfl ?_
         refine RH.val 15 rfl krX krX krX krX (Wanted.free rfl) (V.fieldAddr rfl rfl fo26_6) rfl ?_
         refine RH.one (i := 16) krX ?_
         refine RHone.eff rfl (Wanted.free rfl) (E.store1 rfl rfl rfl rfl rfl sz23 pickX rfl) rfl ?_
         rintro _ _ rfl
         refine ⟨.inl krX, ?_⟩
         refine RH.done krX ?_
         refine SG.exit rfl ?_
         refine SG.weaken (rest ⟨a117, c117⟩ trivial) ?_ ?_
         ·
          repeat (first | exact EnvLe.nil _ | refine EnvLe.cons rfl ?_)
         ·
          try dsimp only
          first | rw [hmg, List.length_append, List.length_take, Nat.min_eq_left (by omega)] | rw [hmg]
          exact entX
        ·
         refine RH.val 8 rfl krX krX krX krX (Wanted.free rfl) (V.move rfl rfl) rfl ?_
         refine RH.val 9 rfl krX krX krX krX (Wanted.yes rfl rfl rfl rfl) (V.move rfl rfl) rfl ?_
         refine RH.val 10 rfl krX krX krX krX (Wanted.yes rfl rfl rfl rfl) (V.nilCheck rfl rfl) rfl ?_
         refine RH.val 11 rfl krX krX krX krX (Wanted.yes rfl rfl rfl rfl) (V.fieldAddr rfl rfl fo94_0) rfl ?_
         refine RH.val 12 rfl krX krX krX krX (Wanted.yes rfl rfl rfl rfl) (V.fieldAddr rfl rfl fo26_6) rfl ?_
         refine RH.val 13 rfl krX krX krX krX (Wanted.yes rfl rfl rfl rfl) (V.load rfl on23 rfl pickX rfl) rfl ?_
         refine RH.val 14 rfl krX krX krX krX (Wanted.yes rfl rfl rfl rfl) (V.move rfl rfl) rfl ?_
         refine RH.val 15 rfl krX krX krX krX (Wanted.yes rfl rfl rfl rfl) (V.indexBuf (j := x + i) rfl el23.slice rfl rfl pickX (by first | rfl | omega) (by omega)) rfl ?_
         refine RH.val 16 rfl krX krX krX krX (Wanted.yes rfl rfl rfl rfl) (V.fieldBuf (j := x + i) rfl rfl fo53_0 pickX (by omega)) rfl ?_
         refine RH.val 17 rfl krX krX krX krX (Wanted.yes rfl rfl rfl rfl) (V.loadBufDtF (j := x + i) rfl on3 rfl pickX (List.getElem?_eq_getElem (by omega)) rfl) rfl ?_
         refine RH.val 18 rfl krX krX krX krX (Wanted.yes rfl rfl rfl rfl) (V.fieldAddr rfl rfl fo53_0) rfl ?_
         refine RH.val 19 rfl krX krX krX krX (Wanted.yes rfl rfl rfl rfl) (V.load rfl on3 rfl pickX rfl) rfl ?_
         refine RH.cmp 20 rfl krX krX krX krX (Wanted.yes rfl rfl rfl rfl) (V.bin rfl rfl rfl B.neq) rfl (fun h149 => ?_) (fun h149 => ?_)
         ·
          refine RH.pure 21 rfl krX krX krX krX (Wanted.free rfl) (V.pick_false rfl rfl rfl) rfl ?_
          refine RH.done krX ?_
          refine SG.cond_true rfl ?_
          refine SG.seq ?_
          refine SG.cut (lo := i) (hi := m.slots.length) (l' := m.slots.drop i) (a := sa) (T := RSlot) memX (by omega) (by omega) (List.take_of_length_le (by simp)) ?_
          have hmg : merge p.log m.index.toNat m.slots = p.log.take (x + i) ++ m.slots.drop i := by rw [merge_at (i := i) (by omega) (by rw [show m.index.toNat = x from by omega]; exact hsame), show m.index.toNat = x from by omega]; exact merge_stop (by omega) (by first | (left; omega) | (right; exact ⟨by omega, by omega⟩))
          refine SG.drawN 17 16 (Blk b 94 (nv (followP p) (.slice la p.log.length lc) (.slice none 0 0) (.slice ma p.mtch.length mc) (.slice oa out.length oc)) :: Blk b3 50 (mv m (.slice sa m.slots.length sc)) :: L1) wide rfl rfl (by repeat (first | exact Ent.refl _ | (apply Ent.cons; (· repeat (first | exact Pick.here | (refine Pick.sl ?_; (· repeat (first | exact List.Mem.head _ | assumption | apply List.Mem.tail))) | apply Pick.there))) | (refine Ent.trans (Ent.drop _ _) ?_))) ?_
          refine RH.val 0 rfl krX krX krX krX (Wanted.free rfl) (V.move rfl rfl) rfl ?_
          refine RH.val 1 rfl krX krX krX krX (Wanted.free rfl) (V.move rfl rfl) rfl ?_
          refine RH.val 2 rfl krX krX krX krX (Wanted.free rfl) (V.nilCheck rfl rfl) rfl ?_
          refine RH.val 3 rfl krX krX krX krX (Wanted.free rfl) (V.fieldAddr rfl rfl fo94_0) rfl ?_
          refine RH.val 4 rfl krX krX krX krX (Wanted.free rfl) (V.fieldAddr rfl rfl fo26_6) rfl ?_
          refine RH.val 5 rfl krX krX krX krX (Wanted.free rfl) (V.load rfl on23 rfl pickX rfl) rfl ?_
          refine RH.val 6 rfl krX krX krX krX (Wanted.free rfl) (V.move rfl rfl) rfl ?_
          refine RH.val 7 rfl krX krX krX krX (Wanted.free rfl) (V.sliceTo (hi := x + i) rfl el23.slice rfl ⟨_, _, rfl, (by omega)⟩ (by omega)) rfl ?_
          refine RH.val 8 rfl krX krX krX krX (Wanted.free rfl) (V.fieldAddr rfl rfl fo50_7) rfl ?_
          refine RH.val 9 rfl krX krX krX krX (Wanted.free rfl) (V.load rfl on23 rfl pickX rfl) rfl ?_
          refine RH.val 10 rfl krX krX krX krX (Wanted.free rfl) (V.move rfl rfl) rfl ?_
          refine RH.val 11 rfl krX krX krX krX (Wanted.free rfl) (V.slice (T := RSlot) (lo := i) (hi := m.slots.length) rfl el23.slice rfl ⟨_, _, rfl, (by first | rfl | omega)⟩ rfl (by omega) (by omega)) rfl ?_
          refine RH.ent (Ent.trans pickX (Buf.cut (m' := x + i) (by omega))) ?_
          refine RH.one (i := 12) krX ?_
          refine RHone.eff rfl (Wanted.free rfl) (E.append (T := RSlot) rfl rfl rfl el23 el23.noInt rfl rfl pickX (Src.sl (l := m.slots.drop i) (by decide) memX) (by first | omega | (simp; omega)) (by first | omega | (simp; omega))) rfl ?_
          intro _ _ hK162
          try rw [List.nil_append] at hK162
          try rw [Nat.zero_add] at hK162
          obtain ⟨a117, c117, rfl, rfl⟩ := hK162
          refine ⟨.inr entX, ?_⟩
          refine RH.pure 13 rfl krX krX krX krX (Wanted.free rfl) (V.nilCheck rfl rfl) rfl ?_
          refine RH.pure 14 rfl krX krX krX krX (Wanted.free rfl) (V.fieldAddr rfl rfl fo94_0) rfl ?_
          refine RH.val 15 rfl krX krX krX krX (Wanted.free rfl) (V.fieldAddr rfl rfl fo26_6) rfl ?_
          refine RH.one (i := 16) krX ?_
          refine RHone.eff rfl (Wanted.free rfl) (E.store1 rfl rfl rfl rfl rfl sz23 pickX rfl) rfl ?_
          rintro _ _ rfl
          refine ⟨.inl krX, ?_⟩
          refine RH.done krX ?_
          refine SG.exit rfl ?_
          refine SG.weaken (rest ⟨a117, c117⟩ trivial) ?_ ?_
          ·
           repeat (first | exact EnvLe.nil _ | refine EnvLe.cons rfl ?_)
          ·
           try dsimp only
           first | rw [hmg, List.length_append, List.length_take, Nat.min_eq_left (by omega)] | rw [hmg]
           exact entX
         ·
          refine RH.pure 21 rfl krX krX krX krX (Wanted.free rfl) (V.pick_false rfl rfl rfl) rfl ?_
          refine RH.done krX ?_
          refine SG.cond_false rfl ?_
          refine SG.skip ?_
          refine SG.inBlock ?_
          refine SG.region ?_
          refine RL.val (Wanted.free rfl) (V.bin rfl rfl rfl (B.addI (by omega) (by omega))) rfl ?_
          refine RL.val (Wanted.free rfl) (V.move rfl rfl) rfl ?_
          refine RL.nil ?_
          refine SG.weaken (ih0 _ _ _ ?_ ⟨i + 1, by omega, by omega, ?_, rfl, rfl, rfl⟩) ?_ ?_
          ·
           omega
          ·
           intro j hj
           by_cases e : j = i
           ·
            subst e; exact ⟨_, _, List.getElem?_eq_getElem (by omega), List.getElem?_eq_getElem (by omega), by omega⟩
           ·
            exact hsame j (by omega)
          ·
           repeat (first | exact EnvLe.nil _ | refine EnvLe.cons rfl ?_)
          ·
           exact entX
       ·
        have hmg : merge p.log m.index.toNat m.slots = p.log := by rw [merge_at (i := m.slots.length) (by omega) (by rw [show m.index.toNat = x from by omega]; intro j hj; exact hsame j (by omega)), merge_all]
        refine RL.nil ?_
        refine SG.seq ?_
        refine SG.cond_false rfl ?_
        refine SG.exit rfl ?_
        refine SG.weaken (rest ⟨la, lc⟩ trivial) ?_ ?_
        ·
         repeat (first | exact EnvLe.nil _ | refine EnvLe.cons rfl ?_)
        ·
         try dsimp only
         first | rw [hmg, List.length_append, List.length_take, Nat.min_eq_left (by omega)] | rw [hmg]
         exact entX
    ·
     refine RH.val 13 rfl krX krX krX krX (Wanted.yes rfl rfl rfl rfl) (V.move rfl rfl) rfl ?_
     refine RH.skip 14 rfl krX krX krX krX (Wanted.no rfl rfl rfl rfl rfl) rfl ?_
     refine RH.skip 15 rfl krX krX krX krX (Wanted.no rfl rfl rfl rfl rfl) rfl ?_
     refine RH.skip 16 rfl krX krX krX krX (Wanted.no rfl rfl rfl rfl rfl) rfl ?_
     refine RH.skip 17 rfl krX krX krX krX (Wanted.no rfl rfl rfl rfl rfl) rfl ?_
     refine RH.skip 18 rfl krX krX krX krX (Wanted.no rfl rfl rfl rfl rfl) rfl ?_
     refine RH.skip 19 rfl krX krX krX krX (Wanted.no rfl rfl rfl rfl rfl) rfl ?_
     refine RH.skip 20 rfl krX krX krX krX (Wanted.no rfl rfl rfl rfl rfl) rfl ?_
     refine RH.pure 21 rfl krX krX krX krX (Wanted.yes rfl rfl rfl rfl) (V.pick_false rfl rfl rfl) rfl ?_
     refine RH.pure 22 rfl krX krX krX krX (Wanted.free rfl) (V.pick_false rfl rfl rfl) rfl ?_
     refine RH.done krX ?_
     refine SG.cond_false rfl ?_
     refine SG.skip ?_
     refine SG.seq ?_
     have hst : Rp.store p m = (storeP (followP p) m, [yesM p m]) := by rw [Rp.store, if_neg hst1, if_neg (by unfold misses; omega)]
     have hle : m.index ≤ p.log.length := by omega
     obtain ⟨x, hx⟩ := Int.eq_ofNat_of_zero_le hx0
     rw [hst]
     refine SG.region ?_
     refine RL.val (Wanted.free rfl) (V.fieldAddr rfl rfl fo50_4) rfl ?_
     refine RL.val (Wanted.free rfl) (V.load rfl on3 rfl pickX rfl) rfl ?_
     refine RL.val (Wanted.free rfl) (V.fieldAddr rfl rfl fo50_7) rfl ?_
     refine RL.val (Wanted.free rfl) (V.load rfl on23 rfl pickX rfl) rfl ?_
     refine RL.val (Wanted.free rfl) (V.len rfl rfl el23.under rfl) rfl ?_
     refine RL.val (Wanted.free rfl) (V.bin rfl rfl rfl (B.addI (by omega) (by omega))) rfl ?_
     refine RL.val (Wanted.free rfl) (V.assign rfl rfl) rfl ?_
     refine RL.nil ?_
     refine SG.seq ?_
     refine SG.seq ?_
     refine SG.region ?_
     refine RL.val (Wanted.free rfl) (V.fieldAddr rfl rfl fo50_7) rfl ?_
     refine RL.val (Wanted.free rfl) (V.load rfl on23 rfl pickX rfl) rfl ?_
     refine RL.val (Wanted.free rfl) (V.len rfl rfl el23.under rfl) rfl ?_
     refine RL.val (Wanted.free rfl) (V.move rfl rfl) rfl ?_
     refine RL.nil ?_
     refine SG.join (ι := Option Addr × Nat) (fun ⟨ja, jc⟩ => [(0, ptr b 0), (3, ptr b3 0), (5, vI (ends m))]) (fun ⟨ja, jc⟩ => Blk b 94 (nv ({ (followP p) with log := merge p.log m.index.toNat m.slots } : Peer) (.slice ja (merge p.log m.index.toNat m.slots).length jc) (.slice none 0 0) (.slice ma p.mtch.length mc) (.slice oa out.length oc)) :: Buf RSlot 53 ja (merge p.log m.index.toNat m.slots).length jc (merge p.log m.index.toNat m.slots) :: Buf RB 4 none 0 0 [] :: Buf RI 3 ma p.mtch.length mc p.mtch :: Buf RMsg 50 oa out.length oc out :: Blk b3 50 (mv m (.slice sa m.slots.length sc)) :: Sl RSlot sa m.slots.length sc m.slots :: L1) (fun ⟨ja, jc⟩ => True) ?_ (fun rest => ?_)
     ·
      rintro ⟨ja, jc⟩ _
      try dsimp only
      refine SG.seq ?_
      refine SG.drawL 15 14 wide rfl rfl ?_
      refine RH.val 0 rfl krX krX krX krX (Wanted.free rfl) (V.move rfl rfl) rfl ?_
      refine RH.val 1 rfl krX krX krX krX (Wanted.free rfl) (V.move rfl rfl) rfl ?_
      refine RH.val 2 rfl krX krX krX krX (Wanted.free rfl) (V.nilCheck rfl rfl) rfl ?_
      refine RH.val 3 rfl krX krX krX krX (Wanted.free rfl) (V.fieldAddr rfl rfl fo94_0) rfl ?_
      refine RH.val 4 rfl krX krX krX krX (Wanted.free rfl) (V.fieldAddr rfl rfl fo26_5) rfl ?_
      refine RH.val 5 rfl krX krX krX krX (Wanted.free rfl) (V.load rfl on3 rfl pickX rfl) rfl ?_
      refine RH.val 6 rfl krX krX krX krX (Wanted.free rfl) (V.fieldAddr rfl rfl fo50_6) rfl ?_
      refine RH.val 7 rfl krX krX krX krX (Wanted.free rfl) (V.load rfl on3 rfl pickX rfl) rfl ?_
      refine RH.val 8 rfl krX krX krX krX (Wanted.free rfl) (V.move rfl rfl) rfl ?_
      refine RH.val 9 rfl krX krX krX krX (Wanted.free rfl) (V.min rfl rfl rfl rfl) rfl ?_
      refine RH.val 10 rfl krX krX krX krX (Wanted.free rfl) (V.max rfl rfl rfl rfl) rfl ?_
      refine RH.pure 11 rfl krX krX krX krX (Wanted.free rfl) (V.nilCheck rfl rfl) rfl ?_
      refine RH.pure 12 rfl krX krX krX krX (Wanted.free rfl) (V.fieldAddr rfl rfl fo94_0) rfl ?_
      refine RH.val 13 rfl krX krX krX krX (Wanted.free rfl) (V.fieldAddr rfl rfl fo26_5) rfl ?_
      refine RH.one (i := 14) krX ?_
      refine RHone.eff rfl (Wanted.free rfl) (E.store1 rfl rfl rfl rfl rfl sz3 pickX rfl) rfl ?_
      rintro _ _ rfl
      refine ⟨.inl krX, ?_⟩
      refine RH.done krX ?_
      rw [mm_eq]
      refine SG.ent (?_ : Ent _ (Blk b 94 (nv (storeP (followP p) m) (.slice ja (merge p.log m.index.toNat m.slots).length jc) (.slice none 0 0) (.slice ma p.mtch.length mc) (.slice oa out.length oc)) :: Buf RSlot 53 ja (merge p.log m.index.toNat m.slots).length jc (merge p.log m.index.toNat m.slots) :: Buf RB 4 none 0 0 [] :: Buf RI 3 ma p.mtch.length mc p.mtch :: Buf RMsg 50 oa out.length oc out :: Blk b3 50 (mv m (.slice sa m.slots.length sc)) :: L1)) ?_
      ·
       exact entX
      refine SG.ent (Sl.nil (T := RSlot)) ?_
      refine SG.ent (RMsg.mk (m := ⟨4, 0, m.frm, 0, ends m, 0, 0, [], true⟩) memX) ?_
      refine SG.region ?_
      refine RL.val (Wanted.free rfl) (V.move rfl rfl) rfl ?_
      refine RL.val (Wanted.free rfl) (V.fieldAddr rfl rfl fo50_1) rfl ?_
      refine RL.val (Wanted.free rfl) (V.load rfl on3 rfl pickX rfl) rfl ?_
      refine RL.val (Wanted.free rfl) (V.move rfl rfl) rfl ?_
      refine RL.val (Wanted.free rfl) (V.buildS [(0, _), (2, _), (4, _), (8, _)] rfl bs50 (by exact ⟨rfl, ⟨_, rfl, rfl⟩, ⟨rfl, ⟨_, rfl, rfl⟩, ⟨rfl, ⟨_, rfl, rfl⟩, ⟨rfl, ⟨_, rfl, rfl⟩, trivial⟩⟩⟩⟩) rfl) rfl ?_
      refine RL.eff (Wanted.free rfl) (E.call rfl go58 rfl (send_ok (p := (storeP (followP p) m)) (m := ⟨4, 0, m.frm, 0, ends m, 0, 0, [], true⟩) (by repeat (first | exact Ent.refl _ | (apply Ent.cons; (· repeat (first | exact Pick.here | (refine Pick.sl ?_; (· repeat (first | exact List.Mem.head _ | assumption | apply List.Mem.tail))) | apply Pick.there))) | (refine Ent.trans (Ent.drop _ _) ?_))) memX (by omega))) rfl ?_
      rintro _ _ ⟨a141, c141, rfl, rfl⟩
      refine RL.nil ?_
      refine SG.doneE (Ret.none Try.func72 rfl) ?_ ⟨rfl, rfl⟩
      refine Nd.ent (la := ja) (ln := (merge p.log m.index.toNat m.slots).length) (lc := jc) (va := none) (vn := 0) (vc := 0) (ma := ma) (mn := p.mtch.length) (mc := mc) (oa := a141) (on := out.length + 1) (oc := c141) ?_
      exact entX
     ·
      refine SG.block ?_
      refine SG.weaken (SG.loop2 (fun m0 al M => ∃ i : Nat, i ≤ m.slots.length ∧ x + i ≤ p.log.length ∧ (∀ j, j < i → ∃ y z, p.log[x + j]? = some y ∧ m.slots[j]? = some z ∧ y.term = z.term) ∧ m0 = m.slots.length - i ∧ al = [(0, ptr b 0), (3, ptr b3 0), (5, vI (ends m)), (72, .slice sa m.slots.length sc), (73, vI m.slots.length), (74, vI i)] ∧ M = Blk b 94 (nv (followP p) (.slice la p.log.length lc) (.slice none 0 0) (.slice ma p.mtch.length mc) (.slice oa out.length oc)) :: Buf RSlot 53 la p.log.length lc p.log :: Buf RB 4 none 0 0 [] :: Buf RI 3 ma p.mtch.length mc p.mtch :: Buf RMsg 50 oa out.length oc out :: Blk b3 50 (mv m (.slice sa m.slots.length sc)) :: Sl RSlot sa m.slots.length sc m.slots :: L1) (m0 := _) ⟨0, by omega, by omega, fun j h => by omega, rfl, rfl, rfl⟩ ?_) ?_ ?_
      rotate_left
      ·
       repeat (first | exact EnvLe.nil _ | refine EnvLe.cons rfl ?_)
      ·
       exact entX
      rintro _ _ _ ⟨i, hi, hxi, hsame, rfl, rfl, rfl⟩ ih0
      refine SG.seq ?_
      refine SG.region ?_
      refine RL.cmp (Wanted.free rfl) (V.bin rfl rfl rfl B.lss) rfl (fun h202 => ?_) (fun h202 => ?_)
      ·
       refine RL.nil ?_
       refine SG.seq ?_
       refine SG.cond_true rfl ?_
       refine SG.skip ?_
       refine SG.seq ?_
       refine SG.block ?_
       refine SG.seq ?_
       refine SG.elemDt (a := sa) (l := m.slots) memX (show m.slots[i]? = some (m.slots[i]'(by omega)) from List.getElem?_eq_getElem (by omega)) fun _ => ?_
       refine SG.region ?_
       refine RL.val (Wanted.free rfl) (V.move rfl rfl) rfl ?_
       refine RL.val (Wanted.free rfl) (V.indexSl (j := i) rfl el23.slice rfl rfl memX (by first | rfl | omega) (by omega)) rfl ?_
       refine RL.val (Wanted.free rfl) (V.loadAt (a := sa) (k := i * 2) rfl ag53 rfl memX rfl) rfl ?_
       refine RL.eff (Wanted.free rfl) (E.alloc rfl ze53) rfl ?_
       rintro _ _ ⟨b7, rfl, rfl⟩
       refine RL.val (Wanted.free rfl) (V.assign rfl rfl) rfl ?_
       refine RL.eff (Wanted.free rfl) (E.storeWhole rfl rfl rfl (by rfl) sz53 pickX (by first | (simp [Value.oneCell']; done) | (simp [setAt, Value.oneCell']; done)) (by rfl)) rfl ?_
       rintro _ _ rfl
       refine RL.nil ?_
       refine SG.seq ?_
       refine SG.region ?_
       refine RL.val (Wanted.free rfl) (V.fieldAddr rfl rfl fo50_4) rfl ?_
       refine RL.val (Wanted.free rfl) (V.load rfl on3 rfl pickX rfl) rfl ?_
       refine RL.val (Wanted.free rfl) (V.move rfl rfl) rfl ?_
       refine RL.val (Wanted.free rfl) (V.bin rfl rfl rfl (B.addI (by omega) (by omega))) rfl ?_
       refine RL.val (Wanted.free rfl) (V.assign rfl rfl) rfl ?_
       refine RL.nil ?_
       refine SG.seq ?_
       refine SG.drawL 22 22 wide rfl rfl ?_
       refine RH.val 0 rfl krX krX krX krX (Wanted.free rfl) (V.move rfl rfl) rfl ?_
       refine RH.val 1 rfl krX krX krX krX (Wanted.free rfl) (V.move rfl rfl) rfl ?_
       refine RH.val 2 rfl krX krX krX krX (Wanted.free rfl) (V.nilCheck rfl rfl) rfl ?_
       refine RH.val 3 rfl krX krX krX krX (Wanted.free rfl) (V.fieldAddr rfl rfl fo94_0) rfl ?_
       refine RH.val 4 rfl krX krX krX krX (Wanted.free rfl) (V.fieldAddr rfl rfl fo26_6) rfl ?_
       refine RH.val 5 rfl krX krX krX krX (Wanted.free rfl) (V.load rfl on23 rfl pickX rfl) rfl ?_
       refine RH.val 6 rfl krX krX krX krX (Wanted.free rfl) (V.len rfl rfl el23.under rfl) rfl ?_
       refine RH.cmp 7 rfl krX krX krX krX (Wanted.free rfl) (V.bin rfl rfl rfl B.geq) rfl (fun h221 => ?_) (fun h221 => ?_)
       ·
        refine RH.val 8 rfl krX krX krX krX (Wanted.free rfl) (V.move rfl rfl) rfl ?_
        refine RH.skip 9 rfl krX krX krX krX (Wanted.no rfl rfl rfl rfl rfl) rfl ?_
        refine RH.skip 10 rfl krX krX krX krX (Wanted.no rfl rfl rfl rfl rfl) rfl ?_
        refine RH.skip 11 rfl krX krX krX krX (Wanted.no rfl rfl rfl rfl rfl) rfl ?_
        refine RH.skip 12 rfl krX krX krX krX (Wanted.no rfl rfl rfl rfl rfl) rfl ?_
        refine RH.skip 13 rfl krX krX krX krX (Wanted.no rfl rfl rfl rfl rfl) rfl ?_
        refine RH.skip 14 rfl krX krX krX krX (Wanted.no rfl rfl rfl rfl rfl) rfl ?_
        refine RH.skip 15 rfl krX krX krX krX (Wanted.no rfl rfl rfl rfl rfl) rfl ?_
        refine RH.skip 16 rfl krX krX krX krX (Wanted.no rfl rfl rfl rfl rfl) rfl ?_
        refine RH.skip 17 rfl krX krX krX krX (Wanted.no rfl rfl rfl rfl rfl) rfl ?_
        refine RH.skip 18 rfl krX krX krX krX (Wanted.no rfl rfl rfl rfl rfl) rfl ?_
        refine RH.skip 19 rfl krX krX krX krX (Wanted.no rfl rfl rfl rfl rfl) rfl ?_
        refine RH.skip 20 rfl krX krX krX krX (Wanted.no rfl rfl rfl rfl rfl) rfl ?_
        refine RH.pure 21 rfl krX krX krX krX (Wanted.free rfl) (V.pick_true rfl rfl rfl) rfl ?_
        refine RH.done krX ?_
        refine SG.cond_true rfl ?_
        refine SG.seq ?_
        refine SG.cut (lo := i) (hi := m.slots.length) (l' := m.slots.drop i) (a := sa) (T := RSlot) memX (by omega) (by omega) (List.take_of_length_le (by simp)) ?_
        have hmg : merge p.log m.index.toNat m.slots = p.log.take (x + i) ++ m.slots.drop i := by rw [merge_at (i := i) (by omega) (by rw [show m.index.toNat = x from by omega]; exact hsame), show m.index.toNat = x from by omega]; exact merge_stop (by omega) (by first | (left; omega) | (right; exact ⟨by omega, by omega⟩))
        refine SG.drawN 17 16 (Blk b 94 (nv (followP p) (.slice la p.log.length lc) (.slice none 0 0) (.slice ma p.mtch.length mc) (.slice oa out.length oc)) :: Blk b3 50 (mv m (.slice sa m.slots.length sc)) :: L1) wide rfl rfl (by repeat (first | exact Ent.refl _ | (apply Ent.cons; (· repeat (first | exact Pick.here | (refine Pick.sl ?_; (· repeat (first | exact List.Mem.head _ | assumption | apply List.Mem.tail))) | apply Pick.there))) | (refine Ent.trans (Ent.drop _ _) ?_))) ?_
        refine RH.val 0 rfl krX krX krX krX (Wanted.free rfl) (V.move rfl rfl) rfl ?_
        refine RH.val 1 rfl krX krX krX krX (Wanted.free rfl) (V.move rfl rfl) rfl ?_
        refine RH.val 2 rfl krX krX krX krX (Wanted.free rfl) (V.nilCheck rfl rfl) rfl ?_
        refine RH.val 3 rfl krX krX krX krX (Wanted.free rfl) (V.fieldAddr rfl rfl fo94_0) rfl ?_
        refine RH.val 4 rfl krX krX krX krX (Wanted.free rfl) (V.fieldAddr rfl rfl fo26_6) rfl ?_
        refine RH.val 5 rfl krX krX krX krX (Wanted.free rfl) (V.load rfl on23 rfl pickX rfl) rfl ?_
        refine RH.val 6 rfl krX krX krX krX (Wanted.free rfl) (V.move rfl rfl) rfl ?_
        refine RH.val 7 rfl krX krX krX krX (Wanted.free rfl) (V.sliceTo (hi := x + i) rfl el23.slice rfl ⟨_, _, rfl, (by omega)⟩ (by omega)) rfl ?_
        refine RH.val 8 rfl krX krX krX krX (Wanted.free rfl) (V.fieldAddr rfl rfl fo50_7) rfl ?_
        refine RH.val 9 rfl krX krX krX krX (Wanted.free rfl) (V.load rfl on23 rfl pickX rfl) rfl ?_
        refine RH.val 10 rfl krX krX krX krX (Wanted.free rfl) (V.move rfl rfl) rfl ?_
        refine RH.val 11 rfl krX krX krX krX (Wanted.free rfl) (V.slice (T := RSlot) (lo := i) (hi := m.slots.length) rfl el23.slice rfl ⟨_, _, rfl, (by first | rfl | omega)⟩ rfl (by omega) (by omega)) rfl ?_
        refine RH.ent (Ent.trans pickX (Buf.cut (m' := x + i) (by omega))) ?_
        refine RH.one (i := 12) krX ?_
        refine RHone.eff rfl (Wanted.free rfl) (E.append (T := RSlot) rfl rfl rfl el23 el23.noInt rfl rfl pickX (Src.sl (l := m.slots.drop i) (by decide) memX) (by first | omega | (simp; omega)) (by first | omega | (simp; omega))) rfl ?_
        intro _ _ hK235
        try rw [List.nil_append] at hK235
        try rw [Nat.zero_add] at hK235
        obtain ⟨a117, c117, rfl, rfl⟩ := hK235
        refine ⟨.inr entX, ?_⟩
        refine RH.pure 13 rfl krX krX krX krX (Wanted.free rfl) (V.nilCheck rfl rfl) rfl ?_
        refine RH.pure 14 rfl krX krX krX krX (Wanted.free rfl) (V.fieldAddr rfl rfl fo94_0) rfl ?_
        refine RH.val 15 rfl krX krX krX krX (Wanted.free rfl) (V.fieldAddr rfl rfl fo26_6) rfl ?_
        refine RH.one (i := 16) krX ?_
        refine RHone.eff rfl (Wanted.free rfl) (E.store1 rfl rfl rfl rfl rfl sz23 pickX rfl) rfl ?_
        rintro _ _ rfl
        refine ⟨.inl krX, ?_⟩
        refine RH.done krX ?_
        refine SG.exit rfl ?_
        refine SG.weaken (rest ⟨a117, c117⟩ trivial) ?_ ?_
        ·
         repeat (first | exact EnvLe.nil _ | refine EnvLe.cons rfl ?_)
        ·
         try dsimp only
         first | rw [hmg, List.length_append, List.length_take, Nat.min_eq_left (by omega)] | rw [hmg]
         exact entX
       ·
        refine RH.val 8 rfl krX krX krX krX (Wanted.free rfl) (V.move rfl rfl) rfl ?_
        refine RH.val 9 rfl krX krX krX krX (Wanted.yes rfl rfl rfl rfl) (V.move rfl rfl) rfl ?_
        refine RH.val 10 rfl krX krX krX krX (Wanted.yes rfl rfl rfl rfl) (V.nilCheck rfl rfl) rfl ?_
        refine RH.val 11 rfl krX krX krX krX (Wanted.yes rfl rfl rfl rfl) (V.fieldAddr rfl rfl fo94_0) rfl ?_
        refine RH.val 12 rfl krX krX krX krX (Wanted.yes rfl rfl rfl rfl) (V.fieldAddr rfl rfl fo26_6) rfl ?_
        refine RH.val 13 rfl krX krX krX krX (Wanted.yes rfl rfl rfl rfl) (V.load rfl on23 rfl pickX rfl) rfl ?_
        refine RH.val 14 rfl krX krX krX krX (Wanted.yes rfl rfl rfl rfl) (V.move rfl rfl) rfl ?_
        refine RH.val 15 rfl krX krX krX krX (Wanted.yes rfl rfl rfl rfl) (V.indexBuf (j := x + i) rfl el23.slice rfl rfl pickX (by first | rfl | omega) (by omega)) rfl ?_
        refine RH.val 16 rfl krX krX krX krX (Wanted.yes rfl rfl rfl rfl) (V.fieldBuf (j := x + i) rfl rfl fo53_0 pickX (by omega)) rfl ?_
        refine RH.val 17 rfl krX krX krX krX (Wanted.yes rfl rfl rfl rfl) (V.loadBufDtF (j := x + i) rfl on3 rfl pickX (List.getElem?_eq_getElem (by omega)) rfl) rfl ?_
        refine RH.val 18 rfl krX krX krX krX (Wanted.yes rfl rfl rfl rfl) (V.fieldAddr rfl rfl fo53_0) rfl ?_
        refine RH.val 19 rfl krX krX krX krX (Wanted.yes rfl rfl rfl rfl) (V.load rfl on3 rfl pickX rfl) rfl ?_
        refine RH.cmp 20 rfl krX krX krX krX (Wanted.yes rfl rfl rfl rfl) (V.bin rfl rfl rfl B.neq) rfl (fun h252 => ?_) (fun h252 => ?_)
        ·
         refine RH.pure 21 rfl krX krX krX krX (Wanted.free rfl) (V.pick_false rfl rfl rfl) rfl ?_
         refine RH.done krX ?_
         refine SG.cond_true rfl ?_
         refine SG.seq ?_
         refine SG.cut (lo := i) (hi := m.slots.length) (l' := m.slots.drop i) (a := sa) (T := RSlot) memX (by omega) (by omega) (List.take_of_length_le (by simp)) ?_
         have hmg : merge p.log m.index.toNat m.slots = p.log.take (x + i) ++ m.slots.drop i := by rw [merge_at (i := i) (by omega) (by rw [show m.index.toNat = x from by omega]; exact hsame), show m.index.toNat = x from by omega]; exact merge_stop (by omega) (by first | (left; omega) | (right; exact ⟨by omega, by omega⟩))
         refine SG.drawN 17 16 (Blk b 94 (nv (followP p) (.slice la p.log.length lc) (.slice none 0 0) (.slice ma p.mtch.length mc) (.slice oa out.length oc)) :: Blk b3 50 (mv m (.slice sa m.slots.length sc)) :: L1) wide rfl rfl (by repeat (first | exact Ent.refl _ | (apply Ent.cons; (· repeat (first | exact Pick.here | (refine Pick.sl ?_; (· repeat (first | exact List.Mem.head _ | assumption | apply List.Mem.tail))) | apply Pick.there))) | (refine Ent.trans (Ent.drop _ _) ?_))) ?_
         refine RH.val 0 rfl krX krX krX krX (Wanted.free rfl) (V.move rfl rfl) rfl ?_
         refine RH.val 1 rfl krX krX krX krX (Wanted.free rfl) (V.move rfl rfl) rfl ?_
         refine RH.val 2 rfl krX krX krX krX (Wanted.free rfl) (V.nilCheck rfl rfl) rfl ?_
         refine RH.val 3 rfl krX krX krX krX (Wanted.free rfl) (V.fieldAddr rfl rfl fo94_0) rfl ?_
         refine RH.val 4 rfl krX krX krX krX (Wanted.free rfl) (V.fieldAddr rfl rfl fo26_6) rfl ?_
         refine RH.val 5 rfl krX krX krX krX (Wanted.free rfl) (V.load rfl on23 rfl pickX rfl) rfl ?_
         refine RH.val 6 rfl krX krX krX krX (Wanted.free rfl) (V.move rfl rfl) rfl ?_
         refine RH.val 7 rfl krX krX krX krX (Wanted.free rfl) (V.sliceTo (hi := x + i) rfl el23.slice rfl ⟨_, _, rfl, (by omega)⟩ (by omega)) rfl ?_
         refine RH.val 8 rfl krX krX krX krX (Wanted.free rfl) (V.fieldAddr rfl rfl fo50_7) rfl ?_
         refine RH.val 9 rfl krX krX krX krX (Wanted.free rfl) (V.load rfl on23 rfl pickX rfl) rfl ?_
         refine RH.val 10 rfl krX krX krX krX (Wanted.free rfl) (V.move rfl rfl) rfl ?_
         refine RH.val 11 rfl krX krX krX krX (Wanted.free rfl) (V.slice (T := RSlot) (lo := i) (hi := m.slots.length) rfl el23.slice rfl ⟨_, _, rfl, (by first | rfl | omega)⟩ rfl (by omega) (by omega)) rfl ?_
         refine RH.ent (Ent.trans pickX (Buf.cut (m' := x + i) (by omega))) ?_
         refine RH.one (i := 12) krX ?_
         refine RHone.eff rfl (Wanted.free rfl) (E.append (T := RSlot) rfl rfl rfl el23 el23.noInt rfl rfl pickX (Src.sl (l := m.slots.drop i) (by decide) memX) (by first | omega | (simp; omega)) (by first | omega | (simp; omega))) rfl ?_
         intro _ _ hK265
         try rw [List.nil_append] at hK265
         try rw [Nat.zero_add] at hK265
         obtain ⟨a117, c117, rfl, rfl⟩ := hK265
         refine ⟨.inr entX, ?_⟩
         refine RH.pure 13 rfl krX krX krX krX (Wanted.free rfl) (V.nilCheck rfl rfl) rfl ?_
         refine RH.pure 14 rfl krX krX krX krX (Wanted.free rfl) (V.fieldAddr rfl rfl fo94_0) rfl ?_
         refine RH.val 15 rfl krX krX krX krX (Wanted.free rfl) (V.fieldAddr rfl rfl fo26_6) rfl ?_
         refine RH.one (i := 16) krX ?_
         refine RHone.eff rfl (Wanted.free rfl) (E.store1 rfl rfl rfl rfl rfl sz23 pickX rfl) rfl ?_
         rintro _ _ rfl
         refine ⟨.inl krX, ?_⟩
         refine RH.done krX ?_
         refine SG.exit rfl ?_
         refine SG.weaken (rest ⟨a117, c117⟩ trivial) ?_ ?_
         ·
          repeat (first | exact EnvLe.nil _ | refine EnvLe.cons rfl ?_)
         ·
          try dsimp only
          first | rw [hmg, List.length_append, List.length_take, Nat.min_eq_left (by omega)] | rw [hmg]
          exact entX
        ·
         refine RH.pure 21 rfl krX krX krX krX (Wanted.free rfl) (V.pick_false rfl rfl rfl) rfl ?_
         refine RH.done krX ?_
         refine SG.cond_false rfl ?_
         refine SG.skip ?_
         refine SG.inBlock ?_
         refine SG.region ?_
         refine RL.val (Wanted.free rfl) (V.bin rfl rfl rfl (B.addI (by omega) (by omega))) rfl ?_
         refine RL.val (Wanted.free rfl) (V.move rfl rfl) rfl ?_
         refine RL.nil ?_
         refine SG.weaken (ih0 _ _ _ ?_ ⟨i + 1, by omega, by omega, ?_, rfl, rfl, rfl⟩) ?_ ?_
         ·
          omega
         ·
          intro j hj
          by_cases e : j = i
          ·
           subst e; exact ⟨_, _, List.getElem?_eq_getElem (by omega), List.getElem?_eq_getElem (by omega), by omega⟩
          ·
           exact hsame j (by omega)
         ·
          repeat (first | exact EnvLe.nil _ | refine EnvLe.cons rfl ?_)
         ·
          exact entX
      ·
       have hmg : merge p.log m.index.toNat m.slots = p.log := by rw [merge_at (i := m.slots.length) (by omega) (by rw [show m.index.toNat = x from by omega]; intro j hj; exact hsame j (by omega)), merge_all]
       refine RL.nil ?_
       refine SG.seq ?_
       refine SG.cond_false rfl ?_
       refine SG.exit rfl ?_
       refine SG.weaken (rest ⟨la, lc⟩ trivial) ?_ ?_
       ·
        repeat (first | exact EnvLe.nil _ | refine EnvLe.cons rfl ?_)
       ·
        try dsimp only
        first | rw [hmg, List.length_append, List.length_take, Nat.min_eq_left (by omega)] | rw [hmg]
        exact entX

end Go.Proofs.Ytilcnglcflohoaa
