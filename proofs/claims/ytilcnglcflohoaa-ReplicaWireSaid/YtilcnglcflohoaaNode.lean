/- A node that is being changed. -/
import Derived.Test.YtilcnglcflohoaaFacts
import Derived.Test.YtilcnglcflohoaaKernB
import Derived.Test.YtilcnglcflohoaaRaft4
namespace Go.Proofs.Ytilcnglcflohoaa
open Go.Wk Go.Rp

def RSlot : Rep Slot := Rep.dt 2 (fun s => [vI s.term, vS s.data]) (fun _ => True) (fun _ _ => rfl) (fun s u hu => by
  simp only [List.mem_cons, List.not_mem_nil, or_false] at hu
  rcases hu with rfl | rfl <;> rfl)
def mv (m : Msg) (s : Value) : List Value := [vI m.kind, vI m.frm, vI m.to, vI m.term, vI m.index, vI m.prev, vI m.commit, s, vB m.yes]
def RMsg : Rep Msg where
  sz := 9
  rep z cs m := ∃ x : Tri, cs = mv m (tv x) ∧ SlP RSlot x.1 x.2.1 x.2.2 m.slots z
  mono h := fun ⟨x, e, s⟩ => ⟨x, e, s.mono h⟩
  len := fun ⟨_, e, _⟩ => by rw [e]; rfl
  one := fun ⟨_, e, _⟩ u hu => by
    rw [e] at hu
    simp only [mv, List.mem_cons, List.not_mem_nil, or_false] at hu
    rcases hu with rfl | rfl | rfl | rfl | rfl | rfl | rfl | rfl | rfl <;> rfl
def pv (p : Peer) (l v m : Value) : List Value := [vI p.id, vI p.nodes, vI p.term, vI p.voted, vI p.role, vI p.commit, l, v, m]
def RPeer : Rep Peer where
  sz := 9
  rep z cs p := ∃ x : Tri × Tri × Tri, cs = pv p (tv x.1) (tv x.2.1) (tv x.2.2) ∧ (SlP RSlot x.1.1 x.1.2.1 x.1.2.2 p.log z ∧ SlP RB x.2.1.1 x.2.1.2.1 x.2.1.2.2 p.votes z ∧ SlP RI x.2.2.1 x.2.2.2.1 x.2.2.2.2 p.mtch z)
  mono h := fun ⟨x, e, a, b, c⟩ => ⟨x, e, a.mono h, b.mono h, c.mono h⟩
  len := fun ⟨_, e, _⟩ => by rw [e]; rfl
  one := fun ⟨_, e, _⟩ u hu => by
    rw [e] at hu
    simp only [pv, List.mem_cons, List.not_mem_nil, or_false] at hu
    rcases hu with rfl | rfl | rfl | rfl | rfl | rfl | rfl | rfl | rfl <;> rfl
@[reducible] def nv (p : Peer) (l v m o : Value) : List Value := [vI p.id, vI p.nodes, vI p.term, vI p.voted, vI p.role, vI p.commit, l, v, m, o]
/-- A node that is being changed, and what it sends. -/
def Nd (b : Nat) (p : Peer) (out : List Msg) : Assn := Exp (fun (_ : Tri × Tri × Tri × Tri) => True) fun x => [Blk b 94 (nv p (.slice x.1.1 x.1.2.1 x.1.2.2) (.slice x.2.1.1 x.2.1.2.1 x.2.1.2.2) (.slice x.2.2.1.1 x.2.2.1.2.1 x.2.2.1.2.2) (.slice x.2.2.2.1 x.2.2.2.2.1 x.2.2.2.2.2)), Buf RSlot 53 x.1.1 x.1.2.1 x.1.2.2 p.log, Buf RB 4 x.2.1.1 x.2.1.2.1 x.2.1.2.2 p.votes, Buf RI 3 x.2.2.1.1 x.2.2.1.2.1 x.2.2.1.2.2 p.mtch, Buf RMsg 50 x.2.2.2.1 x.2.2.2.2.1 x.2.2.2.2.2 out]
section
variable {P : Program} {f : FuncId} {n : Nat} {κ : World} {K : Post} {k : List Item} {ops : Array Oper} {rest : List Oper} {L L1 L' : List Assn} {al : List (Nat × Value)} {b : Nat} {p : Peer} {m : Msg} {out : List Msg} {us : List Value}
theorem SG.openNd (hp : Pick (Nd b p out) L L1) (h : ∀ la ln lc va vn vc ma mn mc oa on oc, SG P f n κ K k al (Blk b 94 (nv p (.slice la ln lc) (.slice va vn vc) (.slice ma mn mc) (.slice oa on oc)) :: Buf RSlot 53 la ln lc p.log :: Buf RB 4 va vn vc p.votes :: Buf RI 3 ma mn mc p.mtch :: Buf RMsg 50 oa on oc out :: L1)) : SG P f n κ K k al L := SG.openExp hp fun _ _ => h _ _ _ _ _ _ _ _ _ _ _ _
theorem Nd.ent {la va ma oa : Option Addr} {ln lc vn vc mn mc on oc : Nat} (h : Ent L' (Blk b 94 (nv p (.slice la ln lc) (.slice va vn vc) (.slice ma mn mc) (.slice oa on oc)) :: Buf RSlot 53 la ln lc p.log :: Buf RB 4 va vn vc p.votes :: Buf RI 3 ma mn mc p.mtch :: Buf RMsg 50 oa on oc out :: L)) : Ent L' (Nd b p out :: L) :=
  h.trans (Exp.close (ι := Tri × Tri × Tri × Tri) (p := fun _ => True) (A := fun x => [Blk b 94 (nv p (.slice x.1.1 x.1.2.1 x.1.2.2) (.slice x.2.1.1 x.2.1.2.1 x.2.1.2.2) (.slice x.2.2.1.1 x.2.2.1.2.1 x.2.2.1.2.2) (.slice x.2.2.2.1 x.2.2.2.2.1 x.2.2.2.2.2)), Buf RSlot 53 x.1.1 x.1.2.1 x.1.2.2 p.log, Buf RB 4 x.2.1.1 x.2.1.2.1 x.2.1.2.2 p.votes, Buf RI 3 x.2.2.1.1 x.2.2.1.2.1 x.2.2.1.2.2 p.mtch, Buf RMsg 50 x.2.2.2.1 x.2.2.2.2.1 x.2.2.2.2.2 out]) ((la, ln, lc), (va, vn, vc), (ma, mn, mc), (oa, on, oc)) trivial)
theorem SG.openPeer (hp : Pick (Rd RPeer us p) L L1) (h : ∀ la ln lc va vn vc ma mn mc, us = pv p (.slice la ln lc) (.slice va vn vc) (.slice ma mn mc) → SG P f n κ K k al (Sl RSlot la ln lc p.log :: Sl RB va vn vc p.votes :: Sl RI ma mn mc p.mtch :: L1)) : SG P f n κ K k al L :=
  SG.roEx3 (ι := Tri × Tri × Tri) (p := fun x => us = pv p (tv x.1) (tv x.2.1) (tv x.2.2)) (R := fun x => SlP RSlot x.1.1 x.1.2.1 x.1.2.2 p.log) (R' := fun x => SlP RB x.2.1.1 x.2.1.2.1 x.2.1.2.2 p.votes) (R'' := fun x => SlP RI x.2.2.1 x.2.2.2.1 x.2.2.2.2 p.mtch) hp (fun _ hz => hz) fun _ hx => h _ _ _ _ _ _ _ _ _ hx
theorem RL.openPeer (hp : Pick (Rd RPeer us p) L L1) (h : ∀ la ln lc va vn vc ma mn mc, us = pv p (.slice la ln lc) (.slice va vn vc) (.slice ma mn mc) → RL P f n κ K k ops rest al (Sl RSlot la ln lc p.log :: Sl RB va vn vc p.votes :: Sl RI ma mn mc p.mtch :: L1)) : RL P f n κ K k ops rest al L :=
  RL.roEx3 (ι := Tri × Tri × Tri) (p := fun x => us = pv p (tv x.1) (tv x.2.1) (tv x.2.2)) (R := fun x => SlP RSlot x.1.1 x.1.2.1 x.1.2.2 p.log) (R' := fun x => SlP RB x.2.1.1 x.2.1.2.1 x.2.1.2.2 p.votes) (R'' := fun x => SlP RI x.2.2.1 x.2.2.2.1 x.2.2.2.2 p.mtch) hp (fun _ hz => hz) fun _ hx => h _ _ _ _ _ _ _ _ _ hx
theorem RH.openPeer {L0 : List Assn} {x fuel : Nat} {listed : Array Bool} (hp : Pick (Rd RPeer us p) L L1) (h : ∀ la ln lc va vn vc ma mn mc, us = pv p (.slice la ln lc) (.slice va vn vc) (.slice ma mn mc) → RH P f n κ K k ops L0 x fuel listed al (Sl RSlot la ln lc p.log :: Sl RB va vn vc p.votes :: Sl RI ma mn mc p.mtch :: L1)) : RH P f n κ K k ops L0 x fuel listed al L :=
  RH.roEx3 (ι := Tri × Tri × Tri) (p := fun x => us = pv p (tv x.1) (tv x.2.1) (tv x.2.2)) (R := fun x => SlP RSlot x.1.1 x.1.2.1 x.1.2.2 p.log) (R' := fun x => SlP RB x.2.1.1 x.2.1.2.1 x.2.1.2.2 p.votes) (R'' := fun x => SlP RI x.2.2.1 x.2.2.2.1 x.2.2.2.2 p.mtch) hp (fun _ hz => hz) fun _ hx => h _ _ _ _ _ _ _ _ _ hx
theorem SG.openMsg (hp : Pick (Rd RMsg us m) L L1) (h : ∀ a n' c, us = mv m (.slice a n' c) → SG P f n κ K k al (Sl RSlot a n' c m.slots :: L1)) : SG P f n κ K k al L :=
  SG.roEx (ι := Tri) (p := fun x => us = mv m (tv x)) (R := fun x => SlP RSlot x.1 x.2.1 x.2.2 m.slots) hp (fun _ hz => hz) fun _ hx => h _ _ _ hx
theorem RL.openMsg (hp : Pick (Rd RMsg us m) L L1) (h : ∀ a n' c, us = mv m (.slice a n' c) → RL P f n κ K k ops rest al (Sl RSlot a n' c m.slots :: L1)) : RL P f n κ K k ops rest al L :=
  RL.roEx (ι := Tri) (p := fun x => us = mv m (tv x)) (R := fun x => SlP RSlot x.1 x.2.1 x.2.2 m.slots) hp (fun _ hz => hz) fun _ hx => h _ _ _ hx
theorem RMsg.mk {a : Option Addr} {n' c : Nat} (hm : Sl RSlot a n' c m.slots ∈ L) : Ent L (Rd RMsg (mv m (.slice a n' c)) m :: L) := Ent.ro_mk hm fun _ h => ⟨(a, n', c), rfl, h⟩
theorem Ex.keep {ι : Type} {A : ι → List Assn} (i : ι) (h : Ent L' (A i ++ L)) : Ent L' (Ex A :: L) := h.trans (Ex.close i)
theorem RPeer.mk {la va ma : Option Addr} {ln lc vn vc mn mc : Nat} (h1 : Sl RSlot la ln lc p.log ∈ L) (h2 : Sl RB va vn vc p.votes ∈ L) (h3 : Sl RI ma mn mc p.mtch ∈ L) : Ent L (Rd RPeer (pv p (.slice la ln lc) (.slice va vn vc) (.slice ma mn mc)) p :: L) := fun z hh H => by
  obtain ⟨_, _, z1, a1, _, _, _, e1, _⟩ := Pick.ro h1 z hh H
  obtain ⟨_, _, z2, a2, _, _, _, e2, _⟩ := Pick.ro h2 z hh H
  obtain ⟨_, _, z3, a3, _, _, _, e3, _⟩ := Pick.ro h3 z hh H
  exact Holds.add_ro (R := fun z => RPeer.rep z _ p) ⟨((la, ln, lc), (va, vn, vc), (ma, mn, mc)), rfl, e1.mono a1, e2.mono a2, e3.mono a3⟩ H
end


theorem termAt_get {l : List Slot} {i : Int} {k : Nat} (h : i - 1 = (k : Int)) (hk : k < l.length) (h0 : i ≠ 0) : termAt l i = (l[k]'hk).term := by
  rw [termAt, if_neg h0, show i.toNat - 1 = k from by omega, List.getD_eq_getElem?_getD, List.getElem?_eq_getElem hk]; rfl

set_option maxRecDepth 100000 in
theorem cloneSl_src {κ : World} {L : List Assn} {a : Option Addr} {m c : Nat} {l : List Slot} (hsrc : Src Try.prog L RSlot (.slice a m c) l) (hl : l.length = m) (hn : a = none → m = 0) (hb : m ≤ 1000000) :
    Ctr Try.prog 68 #[.slice a m c] κ L (fun v M => ∃ a' c', v = .slice a' m c' ∧ M = Buf RSlot 53 a' m c' l :: L) := by
 refine Ctr.enter (vs := [.slice a m c]) (m := 8) Try.func68 rfl rfl rfl ?_
 refine SG.seq ?_
 refine SG.region ?_
 refine RL.val (Wanted.free rfl) (V.assign rfl rfl) rfl ?_
 refine RL.nil ?_
 refine SG.seq ?_
 refine SG.seq ?_
 refine SG.region ?_
 refine RL.val (Wanted.free rfl) (V.move rfl rfl) rfl ?_
 refine RL.val (Wanted.free rfl) (V.eqlNil rfl el23.under rfl rfl) rfl ?_
 refine RL.nil ?_
 refine SG.cond rfl (fun h4 => ?_) (fun h4 => ?_)
 ·
  have ha : a = none := by simpa using h4
  have hm0 := hn ha
  have hl0 : l = [] := List.eq_nil_of_length_eq_zero (by omega)
  subst hm0; subst hl0
  refine SG.ent (Buf.nil (T := RSlot) (e := 53)) ?_
  refine SG.seq ?_
  refine SG.region ?_
  refine RL.val (Wanted.free rfl) (V.assign rfl rfl) rfl ?_
  refine RL.nil ?_
  refine SG.retE (Ret.r1 Try.func68 rfl (.tmp rfl)) ?_ ⟨_, _, rfl, rfl⟩
  exact entX
 ·
  refine SG.skip ?_
  refine SG.seq ?_
  refine SG.region ?_
  refine RL.eff (Wanted.free rfl) (E.lit0 (T := RSlot) rfl rfl el23) rfl ?_
  rintro _ _ ⟨b6, rfl, rfl⟩
  refine RL.val (Wanted.free rfl) (V.move rfl rfl) rfl ?_
  refine RL.eff (Wanted.free rfl) (E.append (T := RSlot) rfl rfl rfl el23 el23.noInt rfl rfl pickX (hsrc.weaken (by intro z h H; exact Ent.drop _ _ z h H)) (by simp; omega) (by simp; omega)) rfl ?_
  intro _ _ hK8
  try rw [List.nil_append] at hK8
  try rw [Nat.zero_add] at hK8
  rw [hl] at hK8
  obtain ⟨a8, c8, rfl, rfl⟩ := hK8
  refine RL.val (Wanted.free rfl) (V.assign rfl rfl) rfl ?_
  refine RL.nil ?_
  refine SG.retE (Ret.r1 Try.func68 rfl (.tmp rfl)) ?_ ⟨_, _, rfl, rfl⟩
  exact entX

theorem cloneSl_ok {κ : World} {L : List Assn} {a : Option Addr} {m c : Nat} {l : List Slot} (hm : Sl RSlot a m c l ∈ L) (hb : l.length ≤ 1000000) : Ctr Try.prog 68 #[.slice a m c] κ L (fun v M => ∃ a' c', v = .slice a' l.length c' ∧ M = Buf RSlot 53 a' l.length c' l :: L) :=
  Ctr.fact (p := l.length = m ∧ (a = none → m = 0)) (fun _ hs => ⟨hs.slLen hm, hs.slN hm⟩) fun h => by
    obtain ⟨rfl, h2⟩ := h
    exact cloneSl_src (Src.sl (by decide) hm) rfl h2 hb
set_option maxRecDepth 100000 in
theorem cloneB_src {κ : World} {L : List Assn} {a : Option Addr} {m c : Nat} {l : List Bool} (hsrc : Src Try.prog L RB (.slice a m c) l) (hl : l.length = m) (hn : a = none → m = 0) (hb : m ≤ 1000000) :
    Ctr Try.prog 86 #[.slice a m c] κ L (fun v M => ∃ a' c', v = .slice a' m c' ∧ M = Buf RB 4 a' m c' l :: L) := by
 refine Ctr.enter (vs := [.slice a m c]) (m := 8) Try.func86 rfl rfl rfl ?_
 refine SG.seq ?_
 refine SG.region ?_
 refine RL.val (Wanted.free rfl) (V.assign rfl rfl) rfl ?_
 refine RL.nil ?_
 refine SG.seq ?_
 refine SG.seq ?_
 refine SG.region ?_
 refine RL.val (Wanted.free rfl) (V.move rfl rfl) rfl ?_
 refine RL.val (Wanted.free rfl) (V.eqlNil rfl el24.under rfl rfl) rfl ?_
 refine RL.nil ?_
 refine SG.cond rfl (fun h4 => ?_) (fun h4 => ?_)
 ·
  have ha : a = none := by simpa using h4
  have hm0 := hn ha
  have hl0 : l = [] := List.eq_nil_of_length_eq_zero (by omega)
  subst hm0; subst hl0
  refine SG.ent (Buf.nil (T := RB) (e := 4)) ?_
  refine SG.seq ?_
  refine SG.region ?_
  refine RL.val (Wanted.free rfl) (V.assign rfl rfl) rfl ?_
  refine RL.nil ?_
  refine SG.retE (Ret.r1 Try.func86 rfl (.tmp rfl)) ?_ ⟨_, _, rfl, rfl⟩
  exact entX
 ·
  refine SG.skip ?_
  refine SG.seq ?_
  refine SG.region ?_
  refine RL.eff (Wanted.free rfl) (E.lit0 (T := RB) rfl rfl el24) rfl ?_
  rintro _ _ ⟨b6, rfl, rfl⟩
  refine RL.val (Wanted.free rfl) (V.move rfl rfl) rfl ?_
  refine RL.eff (Wanted.free rfl) (E.append (T := RB) rfl rfl rfl el24 el24.noInt rfl rfl pickX (hsrc.weaken (by intro z h H; exact Ent.drop _ _ z h H)) (by simp; omega) (by simp; omega)) rfl ?_
  intro _ _ hK8
  try rw [List.nil_append] at hK8
  try rw [Nat.zero_add] at hK8
  rw [hl] at hK8
  obtain ⟨a8, c8, rfl, rfl⟩ := hK8
  refine RL.val (Wanted.free rfl) (V.assign rfl rfl) rfl ?_
  refine RL.nil ?_
  refine SG.retE (Ret.r1 Try.func86 rfl (.tmp rfl)) ?_ ⟨_, _, rfl, rfl⟩
  exact entX

theorem cloneB_ok {κ : World} {L : List Assn} {a : Option Addr} {m c : Nat} {l : List Bool} (hm : Sl RB a m c l ∈ L) (hb : l.length ≤ 1000000) : Ctr Try.prog 86 #[.slice a m c] κ L (fun v M => ∃ a' c', v = .slice a' l.length c' ∧ M = Buf RB 4 a' l.length c' l :: L) :=
  Ctr.fact (p := l.length = m ∧ (a = none → m = 0)) (fun _ hs => ⟨hs.slLen hm, hs.slN hm⟩) fun h => by
    obtain ⟨rfl, h2⟩ := h
    exact cloneB_src (Src.sl (by decide) hm) rfl h2 hb
set_option maxRecDepth 100000 in
theorem cloneI_src {κ : World} {L : List Assn} {a : Option Addr} {m c : Nat} {l : List Int} (hsrc : Src Try.prog L RI (.slice a m c) l) (hl : l.length = m) (hn : a = none → m = 0) (hb : m ≤ 1000000) :
    Ctr Try.prog 87 #[.slice a m c] κ L (fun v M => ∃ a' c', v = .slice a' m c' ∧ M = Buf RI 3 a' m c' l :: L) := by
 refine Ctr.enter (vs := [.slice a m c]) (m := 8) Try.func87 rfl rfl rfl ?_
 refine SG.seq ?_
 refine SG.region ?_
 refine RL.val (Wanted.free rfl) (V.assign rfl rfl) rfl ?_
 refine RL.nil ?_
 refine SG.seq ?_
 refine SG.seq ?_
 refine SG.region ?_
 refine RL.val (Wanted.free rfl) (V.move rfl rfl) rfl ?_
 refine RL.val (Wanted.free rfl) (V.eqlNil rfl el22.under rfl rfl) rfl ?_
 refine RL.nil ?_
 refine SG.cond rfl (fun h4 => ?_) (fun h4 => ?_)
 ·
  have ha : a = none := by simpa using h4
  have hm0 := hn ha
  have hl0 : l = [] := List.eq_nil_of_length_eq_zero (by omega)
  subst hm0; subst hl0
  refine SG.ent (Buf.nil (T := RI) (e := 3)) ?_
  refine SG.seq ?_
  refine SG.region ?_
  refine RL.val (Wanted.free rfl) (V.assign rfl rfl) rfl ?_
  refine RL.nil ?_
  refine SG.retE (Ret.r1 Try.func87 rfl (.tmp rfl)) ?_ ⟨_, _, rfl, rfl⟩
  exact entX
 ·
  refine SG.skip ?_
  refine SG.seq ?_
  refine SG.region ?_
  refine RL.eff (Wanted.free rfl) (E.lit0 (T := RI) rfl rfl el22) rfl ?_
  rintro _ _ ⟨b6, rfl, rfl⟩
  refine RL.val (Wanted.free rfl) (V.move rfl rfl) rfl ?_
  refine RL.eff (Wanted.free rfl) (E.append (T := RI) rfl rfl rfl el22 el22.noInt rfl rfl pickX (hsrc.weaken (by intro z h H; exact Ent.drop _ _ z h H)) (by simp; omega) (by simp; omega)) rfl ?_
  intro _ _ hK8
  try rw [List.nil_append] at hK8
  try rw [Nat.zero_add] at hK8
  rw [hl] at hK8
  obtain ⟨a8, c8, rfl, rfl⟩ := hK8
  refine RL.val (Wanted.free rfl) (V.assign rfl rfl) rfl ?_
  refine RL.nil ?_
  refine SG.retE (Ret.r1 Try.func87 rfl (.tmp rfl)) ?_ ⟨_, _, rfl, rfl⟩
  exact entX

theorem cloneI_ok {κ : World} {L : List Assn} {a : Option Addr} {m c : Nat} {l : List Int} (hm : Sl RI a m c l ∈ L) (hb : l.length ≤ 1000000) : Ctr Try.prog 87 #[.slice a m c] κ L (fun v M => ∃ a' c', v = .slice a' l.length c' ∧ M = Buf RI 3 a' l.length c' l :: L) :=
  Ctr.fact (p := l.length = m ∧ (a = none → m = 0)) (fun _ hs => ⟨hs.slLen hm, hs.slN hm⟩) fun h => by
    obtain ⟨rfl, h2⟩ := h
    exact cloneI_src (Src.sl (by decide) hm) rfl h2 hb
set_option maxRecDepth 100000 in
theorem copied_ok {κ : World} {L : List Assn} {us : List Value} {p : Peer} (hm : Rd RPeer us p ∈ L) (h1 : p.log.length ≤ 1000000) (h2 : p.votes.length ≤ 1000000) (h3 : p.mtch.length ≤ 1000000) :
    Ctr Try.prog 57 #[.agg us.toArray] κ L (fun v M => ∃ b, v = ptr b 0 ∧ M = Nd b p [] :: L) := by
 refine Ctr.enter (vs := [.agg us.toArray]) (m := 18) Try.func57 rfl rfl rfl ?_
 refine SG.openPeer (Pick.rd hm) fun la ln lc va vn vc ma mn mc hus => ?_
 subst hus
 refine SG.seq ?_
 refine SG.region ?_
 refine RL.eff (Wanted.free rfl) (E.box _ rfl rfl rfl) rfl ?_
 rintro _ _ ⟨b1, rfl, rfl⟩
 refine RL.val (Wanted.free rfl) (V.assign rfl rfl) rfl ?_
 refine RL.nil ?_
 refine SG.seq ?_
 refine SG.drawL 15 10 wide rfl rfl ?_
 refine RH.val 0 rfl krX krX krX krX (Wanted.free rfl) (V.fieldAddr rfl rfl fo26_6) rfl ?_
 refine RH.val 1 rfl krX krX krX krX (Wanted.free rfl) (V.load rfl on23 rfl pickX rfl) rfl ?_
 refine RH.val 3 rfl krX krX krX krX (Wanted.free rfl) (V.fieldAddr rfl rfl fo26_7) rfl ?_
 refine RH.val 4 rfl krX krX krX krX (Wanted.free rfl) (V.load rfl on24 rfl pickX rfl) rfl ?_
 refine RH.val 6 rfl krX krX krX krX (Wanted.free rfl) (V.fieldAddr rfl rfl fo26_8) rfl ?_
 refine RH.val 7 rfl krX krX krX krX (Wanted.free rfl) (V.load rfl on22 rfl pickX rfl) rfl ?_
 refine RH.one (i := 2) krX ?_
 refine RHone.eff rfl (Wanted.free rfl) (E.call rfl go68 rfl (cloneSl_ok (l := p.log) memX h1)) rfl ?_
 rintro _ _ ⟨a5, c5, rfl, rfl⟩
 refine ⟨.inr entX, ?_⟩
 refine RH.val 9 rfl krX krX krX krX (Wanted.free rfl) (V.fieldAddr rfl rfl fo26_6) rfl ?_
 refine RH.one (i := 5) krX ?_
 refine RHone.eff rfl (Wanted.free rfl) (E.call rfl go86 rfl (cloneB_ok (l := p.votes) memX h2)) rfl ?_
 rintro _ _ ⟨a8, c8, rfl, rfl⟩
 refine ⟨.inr entX, ?_⟩
 refine RH.one (i := 8) krX ?_
 refine RHone.eff rfl (Wanted.free rfl) (E.call rfl go87 rfl (cloneI_ok (l := p.mtch) memX h3)) rfl ?_
 rintro _ _ ⟨a11, c11, rfl, rfl⟩
 refine ⟨.inr entX, ?_⟩
 refine RH.one (i := 10) krX ?_
 refine RHone.eff rfl (Wanted.free rfl) (E.store1 rfl rfl rfl rfl rfl sz23 pickX rfl) rfl ?_
 rintro _ _ rfl
 refine ⟨.inl krX, ?_⟩
 refine RH.pure 11 rfl krX krX krX krX (Wanted.free rfl) (V.fieldAddr rfl rfl fo26_7) rfl ?_
 refine RH.one (i := 12) krX ?_
 refine RHone.eff rfl (Wanted.free rfl) (E.store1 rfl rfl rfl rfl rfl sz24 pickX rfl) rfl ?_
 rintro _ _ rfl
 refine ⟨.inl krX, ?_⟩
 refine RH.pure 13 rfl krX krX krX krX (Wanted.free rfl) (V.fieldAddr rfl rfl fo26_8) rfl ?_
 refine RH.one (i := 14) krX ?_
 refine RHone.eff rfl (Wanted.free rfl) (E.store1 rfl rfl rfl rfl rfl sz22 pickX rfl) rfl ?_
 rintro _ _ rfl
 refine ⟨.inl krX, ?_⟩
 refine RH.done krX ?_
 refine SG.seq ?_
 refine SG.region ?_
 refine RL.val (Wanted.free rfl) (V.loadAgg (us := pv p (.slice a5 p.log.length c5) (.slice a8 p.votes.length c8) (.slice a11 p.mtch.length c11)) rfl ag26 rfl pickX rfl rfl) rfl ?_
 refine RL.val (Wanted.free rfl) (V.buildS [(0, _)] rfl bs94 (by exact ⟨rfl, ⟨_, rfl, rfl⟩, trivial⟩) rfl) rfl ?_
 refine RL.eff (Wanted.free rfl) (E.box (nv p (.slice a5 p.log.length c5) (.slice a8 p.votes.length c8) (.slice a11 p.mtch.length c11) (.slice none 0 0)) rfl rfl rfl) rfl ?_
 rintro _ _ ⟨b17, rfl, rfl⟩
 refine RL.val (Wanted.free rfl) (V.assign rfl rfl) rfl ?_
 refine RL.nil ?_
 refine SG.ent (Buf.nil (T := RMsg) (e := 50)) ?_
 refine SG.retE (Ret.r1 Try.func57 rfl (.tmp rfl)) ?_ ⟨_, rfl, rfl⟩
 refine Nd.ent (la := a5) (ln := p.log.length) (lc := c5) (va := a8) (vn := p.votes.length) (vc := c8) (ma := a11) (mn := p.mtch.length) (mc := c11) (oa := none) (on := 0) (oc := 0) ?_
 exact entX

set_option maxRecDepth 100000 in
theorem term_ok {κ : World} {L : List Assn} {L1 L2 : List Assn} {b : Nat} {p : Peer} {la : Option Addr} {ln lc : Nat} {v1 v2 v3 : Value} (hB : Pick (Blk b 94 (nv p (.slice la ln lc) v1 v2 v3)) L L1) (hL : Pick (Buf RSlot 53 la ln lc p.log) L L2) {i : Int} (h0 : 0 ≤ i) (h1 : i ≤ p.log.length) :
    Ctr Try.prog 59 #[ptr b 0, vI i] κ L (fun v M => v = vI (termAt p.log i) ∧ M = L) := by
 refine Ctr.enter (vs := [ptr b 0, vI i]) (m := 17) Try.func59 rfl rfl rfl ?_
 refine SG.buf (T := RSlot) (a := la) hL fun hll _ _ => ?_
 refine SG.seq ?_
 refine SG.region ?_
 refine RL.val (Wanted.free rfl) (V.assign rfl rfl) rfl ?_
 refine RL.nil ?_
 refine SG.seq ?_
 refine SG.seq ?_
 refine SG.region ?_
 refine RL.val (Wanted.free rfl) (V.move rfl rfl) rfl ?_
 refine RL.cmp (Wanted.free rfl) (V.bin rfl rfl rfl B.eql) rfl (fun h3 => ?_) (fun h3 => ?_)
 ·
  refine RL.nil ?_
  refine SG.cond_true rfl ?_
  refine SG.seq ?_
  refine SG.region ?_
  refine RL.val (Wanted.free rfl) (V.assign rfl rfl) rfl ?_
  refine RL.nil ?_
  refine SG.retE (Ret.r1 Try.func59 rfl (.tmp rfl)) ?_ ⟨by rw [show i = 0 from by omega]; rfl, rfl⟩
  exact entX
 ·
  refine RL.nil ?_
  refine SG.cond_false rfl ?_
  refine SG.skip ?_
  refine SG.seq ?_
  obtain ⟨k, hk⟩ := Int.eq_ofNat_of_zero_le (show 0 ≤ i - 1 by omega)
  refine SG.region ?_
  refine RL.val (Wanted.free rfl) (V.move rfl rfl) rfl ?_
  refine RL.val (Wanted.free rfl) (V.nilCheck rfl rfl) rfl ?_
  refine RL.val (Wanted.free rfl) (V.fieldAddr rfl rfl fo94_0) rfl ?_
  refine RL.val (Wanted.free rfl) (V.fieldAddr rfl rfl fo26_6) rfl ?_
  refine RL.val (Wanted.free rfl) (V.load rfl on23 rfl pickX rfl) rfl ?_
  refine RL.val (Wanted.free rfl) (V.move rfl rfl) rfl ?_
  refine RL.val (Wanted.free rfl) (V.bin rfl rfl rfl (B.subI (by omega) (by omega))) rfl ?_
  refine RL.val (Wanted.free rfl) (V.indexBuf (j := k) rfl el23.slice rfl rfl pickX (by first | rfl | omega) (by omega)) rfl ?_
  refine RL.val (Wanted.free rfl) (V.fieldBuf (j := k) rfl rfl fo53_0 pickX (by omega)) rfl ?_
  refine RL.val (Wanted.free rfl) (V.loadBufDtF (j := k) rfl on3 rfl pickX (List.getElem?_eq_getElem (by omega)) rfl) rfl ?_
  refine RL.val (Wanted.free rfl) (V.assign rfl rfl) rfl ?_
  refine RL.nil ?_
  refine SG.retE (Ret.r1 Try.func59 rfl (.tmp rfl)) ?_ ⟨by rw [termAt_get (k := k) (by omega) (by omega) (by omega)], rfl⟩
  exact entX

set_option maxRecDepth 100000 in
theorem send_ok {κ : World} {L : List Assn} {L2 : List Assn} {b : Nat} {p : Peer} {out : List Msg} {vl vv vm : Value} {oa : Option Addr} {on oc : Nat} {us : List Value} {m : Msg} (hp : Ent L (Blk b 94 (nv p vl vv vm (.slice oa on oc)) :: Buf RMsg 50 oa on oc out :: L2)) (hm : Rd RMsg us m ∈ L2) (hl : out.length ≤ 100000) :
    Ctr Try.prog 58 #[ptr b 0, .agg us.toArray] κ L (fun v M => ∃ oa' oc', v = .tuple #[] ∧ M = Blk b 94 (nv p vl vv vm (.slice oa' (out.length + 1) oc')) :: Buf RMsg 50 oa' (out.length + 1) oc' (out ++ [{ m with frm := p.id, term := p.term }]) :: L2) := by
 refine Ctr.enter (vs := [ptr b 0, .agg us.toArray]) (m := 26) Try.func58 rfl rfl rfl ?_
 refine SG.ent hp ?_
 refine SG.openMsg (Pick.rd (show Rd RMsg us m ∈ _ from memX)) fun sa sn sc hus => ?_
 subst hus
 refine SG.buf (T := RMsg) (a := oa) pickX fun hol _ _ => ?_
 subst hol
 refine SG.seq ?_
 refine SG.region ?_
 refine RL.eff (Wanted.free rfl) (E.box _ rfl rfl rfl) rfl ?_
 rintro _ _ ⟨b3, rfl, rfl⟩
 refine RL.nil ?_
 refine SG.seq ?_
 refine SG.drawP1 14 3 wide rfl rfl rfl pickX ?_
 refine RH.val 0 rfl krX krX krX krX (Wanted.free rfl) (V.move rfl rfl) rfl ?_
 refine RH.val 1 rfl krX krX krX krX (Wanted.free rfl) (V.nilCheck rfl rfl) rfl ?_
 refine RH.val 2 rfl krX krX krX krX (Wanted.free rfl) (V.fieldAddr rfl rfl fo94_0) rfl ?_
 refine RH.val 3 rfl krX krX krX krX (Wanted.free rfl) (V.fieldAddr rfl rfl fo26_0) rfl ?_
 refine RH.val 4 rfl krX krX krX krX (Wanted.free rfl) (V.load rfl on3 rfl pickX rfl) rfl ?_
 refine RH.val 5 rfl krX krX krX krX (Wanted.free rfl) (V.move rfl rfl) rfl ?_
 refine RH.val 6 rfl krX krX krX krX (Wanted.free rfl) (V.nilCheck rfl rfl) rfl ?_
 refine RH.val 7 rfl krX krX krX krX (Wanted.free rfl) (V.fieldAddr rfl rfl fo94_0) rfl ?_
 refine RH.val 8 rfl krX krX krX krX (Wanted.free rfl) (V.fieldAddr rfl rfl fo26_2) rfl ?_
 refine RH.val 9 rfl krX krX krX krX (Wanted.free rfl) (V.load rfl on3 rfl pickX rfl) rfl ?_
 refine RH.val 10 rfl krX krX krX krX (Wanted.free rfl) (V.fieldAddr rfl rfl fo50_1) rfl ?_
 refine RH.one (i := 11) krX ?_
 refine RHone.eff rfl (Wanted.free rfl) (E.store1 rfl rfl rfl rfl rfl sz3 pickX rfl) rfl ?_
 rintro _ _ rfl
 refine ⟨.inr entX, ?_⟩
 refine RH.val 12 rfl krX krX krX krX (Wanted.free rfl) (V.fieldAddr rfl rfl fo50_3) rfl ?_
 refine RH.one (i := 13) krX ?_
 refine RHone.eff rfl (Wanted.free rfl) (E.store1 rfl rfl rfl rfl rfl sz3 pickX rfl) rfl ?_
 rintro _ _ rfl
 refine ⟨.inr entX, ?_⟩
 refine RH.done krX ?_
 refine SG.drawN 11 10 (Blk b 94 (nv p vl vv vm (.slice oa out.length oc)) :: Blk b3 50 (mv { m with frm := p.id, term := p.term } (.slice sa sn sc)) :: L2) wide rfl rfl (by repeat (first | exact Ent.refl _ | (apply Ent.cons; (· repeat (first | exact Pick.here | (refine Pick.sl ?_; (· repeat (first | exact List.Mem.head _ | assumption | apply List.Mem.tail))) | apply Pick.there))) | (refine Ent.trans (Ent.drop _ _) ?_))) ?_
 refine RH.val 0 rfl krX krX krX krX (Wanted.free rfl) (V.move rfl rfl) rfl ?_
 refine RH.val 1 rfl krX krX krX krX (Wanted.free rfl) (V.move rfl rfl) rfl ?_
 refine RH.val 2 rfl krX krX krX krX (Wanted.free rfl) (V.nilCheck rfl rfl) rfl ?_
 refine RH.val 3 rfl krX krX krX krX (Wanted.free rfl) (V.fieldAddr rfl rfl fo94_1) rfl ?_
 refine RH.val 4 rfl krX krX krX krX (Wanted.free rfl) (V.load rfl on35 rfl pickX rfl) rfl ?_
 refine RH.val 5 rfl krX krX krX krX (Wanted.free rfl) (V.loadAgg (us := mv { m with frm := p.id, term := p.term } (.slice sa sn sc)) rfl ag50 rfl pickX rfl rfl) rfl ?_
 refine RH.one (i := 6) krX ?_
 refine RHone.eff rfl (Wanted.free rfl) (E.lit1 (mv { m with frm := p.id, term := p.term } (.slice sa sn sc)) rfl el35.slice ze50 rfl (by decide) (by decide) rfl rfl rfl) rfl ?_
 rintro _ _ ⟨b22, rfl, rfl⟩
 refine ⟨.inr entX, ?_⟩
 refine RH.ent (RMsg.mk (m := { m with frm := p.id, term := p.term }) (a := sa) (n' := sn) (c := sc) memX) ?_
 refine RH.one (i := 7) krX ?_
 refine RHone.eff rfl (Wanted.free rfl) (E.append (T := RMsg) rfl rfl rfl el35 el35.noInt rfl rfl pickX (Src.litRd (y := { m with frm := p.id, term := p.term }) pickX memX) (by first | omega | (simp; omega)) (by first | omega | (simp; omega))) rfl ?_
 intro _ _ hK23
 try rw [List.nil_append] at hK23
 try rw [Nat.zero_add] at hK23
 obtain ⟨a23, c23, rfl, rfl⟩ := hK23
 refine ⟨.inr entX, ?_⟩
 refine RH.pure 8 rfl krX krX krX krX (Wanted.free rfl) (V.nilCheck rfl rfl) rfl ?_
 refine RH.val 9 rfl krX krX krX krX (Wanted.free rfl) (V.fieldAddr rfl rfl fo94_1) rfl ?_
 refine RH.one (i := 10) krX ?_
 refine RHone.eff rfl (Wanted.free rfl) (E.store1 rfl rfl rfl rfl rfl sz35 pickX rfl) rfl ?_
 rintro _ _ rfl
 refine ⟨.inl krX, ?_⟩
 refine RH.done krX ?_
 refine SG.doneE (Ret.none Try.func58 rfl) ?_ ⟨a23, c23, rfl, rfl⟩
 exact entX

set_option maxRecDepth 100000 in
theorem term_sl {κ : World} {L : List Assn} {L1 : List Assn} {b : Nat} {p : Peer} {la : Option Addr} {ln lc : Nat} {v1 v2 v3 : Value} (hB : Pick (Blk b 94 (nv p (.slice la ln lc) v1 v2 v3)) L L1) (hL : Sl RSlot la ln lc p.log ∈ L) {i : Int} (h0 : 0 ≤ i) (h1 : i ≤ p.log.length) :
    Ctr Try.prog 59 #[ptr b 0, vI i] κ L (fun v M => v = vI (termAt p.log i) ∧ M = L) := by
 refine Ctr.enter (vs := [ptr b 0, vI i]) (m := 17) Try.func59 rfl rfl rfl ?_
 refine SG.sl hL fun hll _ _ => ?_
 refine SG.seq ?_
 refine SG.region ?_
 refine RL.val (Wanted.free rfl) (V.assign rfl rfl) rfl ?_
 refine RL.nil ?_
 refine SG.seq ?_
 refine SG.seq ?_
 refine SG.region ?_
 refine RL.val (Wanted.free rfl) (V.move rfl rfl) rfl ?_
 refine RL.cmp (Wanted.free rfl) (V.bin rfl rfl rfl B.eql) rfl (fun h3 => ?_) (fun h3 => ?_)
 ·
  refine RL.nil ?_
  refine SG.cond_true rfl ?_
  refine SG.seq ?_
  refine SG.region ?_
  refine RL.val (Wanted.free rfl) (V.assign rfl rfl) rfl ?_
  refine RL.nil ?_
  refine SG.retE (Ret.r1 Try.func59 rfl (.tmp rfl)) ?_ ⟨by rw [show i = 0 from by omega]; rfl, rfl⟩
  exact entX
 ·
  refine RL.nil ?_
  refine SG.cond_false rfl ?_
  refine SG.skip ?_
  refine SG.seq ?_
  obtain ⟨k, hk⟩ := Int.eq_ofNat_of_zero_le (show 0 ≤ i - 1 by omega)
  refine SG.elemDt (a := la) hL (show p.log[k]? = some (p.log[k]'(by omega)) from List.getElem?_eq_getElem (by omega)) fun _ => ?_
  have hB2 : Pick _ _ _ := Pick.there (B := At la (k * 2) [vI (p.log[k]'(by omega)).term, vS (p.log[k]'(by omega)).data]) hB
  refine SG.region ?_
  refine RL.val (Wanted.free rfl) (V.move rfl rfl) rfl ?_
  refine RL.val (Wanted.free rfl) (V.nilCheck rfl rfl) rfl ?_
  refine RL.val (Wanted.free rfl) (V.fieldAddr rfl rfl fo94_0) rfl ?_
  refine RL.val (Wanted.free rfl) (V.fieldAddr rfl rfl fo26_6) rfl ?_
  refine RL.val (Wanted.free rfl) (V.load rfl on23 rfl hB2 rfl) rfl ?_
  refine RL.val (Wanted.free rfl) (V.move rfl rfl) rfl ?_
  refine RL.val (Wanted.free rfl) (V.bin rfl rfl rfl (B.subI (by omega) (by omega))) rfl ?_
  refine RL.val (Wanted.free rfl) (V.indexSl (j := k) rfl el23.slice rfl rfl memX (by first | rfl | omega) (by omega)) rfl ?_
  refine RL.val (Wanted.free rfl) (V.fieldAt rfl rfl fo53_0 memX) rfl ?_
  refine RL.val (Wanted.free rfl) (V.loadAtF rfl on3 rfl memX rfl) rfl ?_
  refine RL.val (Wanted.free rfl) (V.assign rfl rfl) rfl ?_
  refine RL.nil ?_
  refine SG.retE (Ret.r1 Try.func59 rfl (.tmp rfl)) ?_ ⟨by rw [termAt_get (k := k) (by omega) (by omega) (by omega)], rfl⟩
  exact entX

end Go.Proofs.Ytilcnglcflohoaa
