/- Clusters. -/
import Derived.Test.YtilcnglcflohoaaHandle
import Derived.Test.YtilcnglcflohoaaKernB
namespace Go.Proofs.Ytilcnglcflohoaa
open Go.Wk Go.Rp

def RClu : Rep Clu where
  sz := 2
  rep z cs c := ∃ x : Tri × Tri, cs = [tv x.1, tv x.2] ∧ (SlP RPeer x.1.1 x.1.2.1 x.1.2.2 c.nodes z ∧ SlP RMsg x.2.1 x.2.2.1 x.2.2.2 c.sent z)
  mono h := fun ⟨x, e, a, b⟩ => ⟨x, e, a.mono h, b.mono h⟩
  len := fun ⟨_, e, _⟩ => by rw [e]; rfl
  one := fun ⟨_, e, _⟩ u hu => by
    rw [e] at hu
    simp only [List.mem_cons, List.not_mem_nil, or_false] at hu
    rcases hu with rfl | rfl <;> rfl
section
variable {P : Program} {f : FuncId} {n : Nat} {κ : World} {K : Post} {k : List Item} {ops : Array Oper} {rest : List Oper} {L L1 L' : List Assn} {al : List (Nat × Value)} {c : Clu} {cs : List Value}
theorem SG.openClu (hp : Pick (Rd RClu cs c) L L1) (h : ∀ na nn nc sa sn sc, cs = [.slice na nn nc, .slice sa sn sc] → SG P f n κ K k al (Sl RPeer na nn nc c.nodes :: Sl RMsg sa sn sc c.sent :: L1)) : SG P f n κ K k al L :=
  SG.roEx2 (ι := Tri × Tri) (p := fun x => cs = [tv x.1, tv x.2]) (R := fun x => SlP RPeer x.1.1 x.1.2.1 x.1.2.2 c.nodes) (R' := fun x => SlP RMsg x.2.1 x.2.2.1 x.2.2.2 c.sent) hp (fun _ hz => hz) fun _ hx => h _ _ _ _ _ _ hx
theorem RL.openClu (hp : Pick (Rd RClu cs c) L L1) (h : ∀ na nn nc sa sn sc, cs = [.slice na nn nc, .slice sa sn sc] → RL P f n κ K k ops rest al (Sl RPeer na nn nc c.nodes :: Sl RMsg sa sn sc c.sent :: L1)) : RL P f n κ K k ops rest al L :=
  RL.roEx2 (ι := Tri × Tri) (p := fun x => cs = [tv x.1, tv x.2]) (R := fun x => SlP RPeer x.1.1 x.1.2.1 x.1.2.2 c.nodes) (R' := fun x => SlP RMsg x.2.1 x.2.2.1 x.2.2.2 c.sent) hp (fun _ hz => hz) fun _ hx => h _ _ _ _ _ _ hx
theorem RH.openClu {L0 : List Assn} {x fuel : Nat} {listed : Array Bool} (hp : Pick (Rd RClu cs c) L L1) (h : ∀ na nn nc sa sn sc, cs = [.slice na nn nc, .slice sa sn sc] → RH P f n κ K k ops L0 x fuel listed al (Sl RPeer na nn nc c.nodes :: Sl RMsg sa sn sc c.sent :: L1)) : RH P f n κ K k ops L0 x fuel listed al L :=
  RH.roEx2 (ι := Tri × Tri) (p := fun x => cs = [tv x.1, tv x.2]) (R := fun x => SlP RPeer x.1.1 x.1.2.1 x.1.2.2 c.nodes) (R' := fun x => SlP RMsg x.2.1 x.2.2.1 x.2.2.2 c.sent) hp (fun _ hz => hz) fun _ hx => h _ _ _ _ _ _ hx
theorem RH.openMsg {us : List Value} {m : Msg} {L0 : List Assn} {x fuel : Nat} {listed : Array Bool} (hp : Pick (Rd RMsg us m) L L1) (h : ∀ a n' c, us = mv m (.slice a n' c) → RH P f n κ K k ops L0 x fuel listed al (Sl RSlot a n' c m.slots :: L1)) : RH P f n κ K k ops L0 x fuel listed al L :=
  RH.roEx (ι := Tri) (p := fun x => us = mv m (tv x)) (R := fun x => SlP RSlot x.1 x.2.1 x.2.2 m.slots) hp (fun _ hz => hz) fun _ hx => h _ _ _ hx
theorem RClu.mk {na sa : Option Addr} {nn nc sn sc : Nat} (h1 : Sl RPeer na nn nc c.nodes ∈ L) (h2 : Sl RMsg sa sn sc c.sent ∈ L) : Ent L (Rd RClu [.slice na nn nc, .slice sa sn sc] c :: L) := fun z hh H => by
  obtain ⟨_, _, z1, a1, _, _, _, e1, _⟩ := Pick.ro h1 z hh H
  obtain ⟨_, _, z2, a2, _, _, _, e2, _⟩ := Pick.ro h2 z hh H
  exact Holds.add_ro (R := fun z => RClu.rep z _ c) ⟨((na, nn, nc), (sa, sn, sc)), rfl, e1.mono a1, e2.mono a2⟩ H
theorem Rd.rep {α : Type} {T : Rep α} {us : List Value} {y : α} (h : Rd T us y ∈ L) : ∀ z h, Holds z L h → T.rep z us y := fun z hh H => by
  obtain ⟨_, _, z1, a1, _, _, _, e1, _⟩ := Pick.ro h z hh H
  exact T.mono a1 e1
end
/-- A cluster whose steps stay within bounds. -/
structure COk (c : Clu) : Prop where
  n : c.nodes.length ≤ 5
  s : c.sent.length ≤ 5000
  p : ∀ p ∈ c.nodes, POk p
  m : ∀ m ∈ c.sent, Proofs.Ytilcnglcflohoaa.MOk m ∧ 0 ≤ m.to ∧ m.to < c.nodes.length
theorem Clu.p_mem {c : Clu} {i : Nat} (h : i < c.nodes.length) : c.p i ∈ c.nodes := List.mem_of_getElem? (Clu.p_get h)
theorem pok_of {N : Nat} {G : Gh} {j : Int} {p : Peer} {s : Nat} (hG : GOK N G) (h : NOK N G j p) (hb : PB s p) (h1 : 1 ≤ N) (h5 : N ≤ 5) (hs : s ≤ 1000) : POk p := by
  have hid := h.id
  have hnn := h.nodes
  have hr := h.rng
  have hc := h.com
  obtain ⟨b1, b2, b3⟩ := hb
  have hv : p.votes.length ≤ 5 := by
    by_cases e : p.role = 1
    · have := (h.c1 e).1; omega
    · rw [h.nv e]; simp
  have hm : p.mtch.length ≤ 5 := by
    by_cases e : p.role = 2
    · have := (h.l1 e).1; omega
    · rw [h.nm e]; simp
  exact { n1 := by omega, n5 := by omega, i0 := by omega, i1 := by omega, t0 := h.term, t1 := by omega, ll := by omega, lv := by omega, lm := by omega
          vn := fun e => by rw [(h.c1 e).1]; omega
          mn := fun e => by rw [(h.l1 e).1]; omega
          c0 := hc.1, c1 := hc.2.1
          mm := fun m hm => by
            by_cases e : p.role = 2
            · obtain ⟨i, hi⟩ := List.getElem?_of_mem hm
              have hlt := (List.getElem?_eq_some_iff.1 hi).1
              obtain ⟨m', a, _, b, d, _⟩ := mtch_le hG h e (i := i) (by have := (h.l1 e).1; omega)
              rw [hi] at a; cases a
              exact ⟨b, d⟩
            · rw [h.nm e] at hm; cases hm
          dd := fun x hx => by have := b3 x hx; omega }
theorem Rch.ok {N : Nat} {G : Gh} {s : Nat} {c : Clu} (h : Rp.Reach N G s c) (h1 : 1 ≤ N) (h5 : N ≤ 5) (hs : s ≤ 1000) : COk c where
  n := by rw [h.1.len]; exact h5
  s := by have := h.2.len; omega
  p := fun p hp => by
    obtain ⟨i, hi⟩ := List.getElem?_of_mem hp
    exact pok_of h.1.g (h.1.node i p hi) (h.2.node i p hi) h1 h5 hs
  m := fun m hm => by
    have a := h.1.msg m hm
    obtain ⟨b1, b2, b3, b4, b5⟩ := h.2.msg m hm
    have hto := a.to
    have hix := a.nat.1
    exact ⟨⟨a.term, by omega, a.nat.1, by omega, by omega⟩, hto.1, by rw [h.1.len]; exact hto.2⟩

set_option maxRecDepth 100000 in
set_option maxHeartbeats 1000000 in
theorem with_ok {κ : World} {L : List Assn} {cs : List Value} {c : Clu} (hm : Rd RClu cs c ∈ L) {us : List Value} {p : Peer} (hp : Rd RPeer us p ∈ L) {a : Option Addr} {n cc : Nat} {ms : List Msg} (hs : Sl RMsg a n cc ms ∈ L) {i : Nat} {j : Int} (hj : j = i) (hi : i < c.nodes.length) (h1 : c.nodes.length ≤ 5) (h2 : c.sent.length ≤ 5000) (h3 : ms.length ≤ 1000) :
    Ctr Try.prog 78 #[.agg cs.toArray, vI j, .agg us.toArray, .slice a n cc] κ L (fun v M => ∃ cs', v = .agg cs'.toArray ∧ M = Rd RClu cs' (c.put i (p, ms)) :: L) := by
 refine Ctr.enter (vs := [.agg cs.toArray, vI j, .agg us.toArray, .slice a n cc]) (m := 26) Try.func78 rfl rfl rfl ?_
 subst hj
 refine SG.openClu (Pick.rd hm) fun na nn nc sa sn sc hcs => ?_
 subst hcs
 refine SG.openPeer (us := us) (p := p) (Pick.rd memX) fun ka kn kc wa wn wc xa xn xc hus => ?_
 subst hus
 refine SG.sl (T := RPeer) (a := na) memX fun hnl _ _ => ?_
 refine SG.sl (T := RMsg) (a := sa) memX fun hsl _ _ => ?_
 refine SG.sl (T := RMsg) (a := a) (l := ms) memX fun  hml _ _ => ?_
 subst hnl; subst hsl; subst hml
 refine SG.seq ?_
 refine SG.region ?_
 refine RL.eff (Wanted.free rfl) (E.box _ rfl rfl rfl) rfl ?_
 rintro _ _ ⟨b4, rfl, rfl⟩
 refine RL.eff (Wanted.free rfl) (E.box _ rfl rfl rfl) rfl ?_
 rintro _ _ ⟨b6, rfl, rfl⟩
 refine RL.eff (Wanted.free rfl) (E.alloc rfl ze37) rfl ?_
 rintro _ _ ⟨b8, rfl, rfl⟩
 refine RL.nil ?_
 refine SG.seq ?_
 refine SG.region ?_
 refine RL.eff (Wanted.free rfl) (E.lit0 (T := RPeer) rfl rfl el34) rfl ?_
 rintro _ _ ⟨b10, rfl, rfl⟩
 refine RL.val (Wanted.free rfl) (V.fieldAddr rfl rfl fo37_0) rfl ?_
 refine RL.val (Wanted.free rfl) (V.load rfl on34 rfl pickX rfl) rfl ?_
 refine RL.eff (Wanted.free rfl) (E.append (T := RPeer) rfl rfl rfl el34 el34.noInt rfl rfl pickX (Src.sl (by decide) memX) (by first | omega | (simp; omega)) (by first | omega | (simp; omega))) rfl ?_
 intro _ _ hK7
 try rw [List.nil_append] at hK7
 try rw [Nat.zero_add] at hK7
 obtain ⟨a13, c13, rfl, rfl⟩ := hK7
 refine RL.val (Wanted.free rfl) (V.assign rfl rfl) rfl ?_
 refine RL.nil ?_
 refine SG.seq ?_
 refine SG.region ?_
 refine RL.val (Wanted.free rfl) (V.move rfl rfl) rfl ?_
 refine RL.val (Wanted.free rfl) (V.move rfl rfl) rfl ?_
 refine RL.val (Wanted.free rfl) (V.loadAgg (us := pv p (.slice ka kn kc) (.slice wa wn wc) (.slice xa xn xc)) rfl ag26 rfl pickX rfl rfl) rfl ?_
 refine RL.val (Wanted.free rfl) (V.indexBuf (j := i) rfl el34.slice rfl rfl pickX (by first | rfl | omega) (by simpa using hi)) rfl ?_
 refine RL.eff (Wanted.free rfl) (E.storeBuf (pv p (.slice ka kn kc) (.slice wa wn wc) (.slice xa xn xc)) rfl sz26 rfl rfl rfl pickX (by simpa using hi) (Rd.rep (T := RPeer) memX)) rfl ?_
 rintro _ _ rfl
 refine RL.nil ?_
 refine SG.seq ?_
 refine SG.region ?_
 refine RL.val (Wanted.free rfl) (V.move rfl rfl) rfl ?_
 refine RL.eff (Wanted.free rfl) (E.lit0 (T := RMsg) rfl rfl el35) rfl ?_
 rintro _ _ ⟨b19, rfl, rfl⟩
 refine RL.val (Wanted.free rfl) (V.fieldAddr rfl rfl fo37_1) rfl ?_
 refine RL.val (Wanted.free rfl) (V.load rfl on35 rfl pickX rfl) rfl ?_
 refine RL.eff (Wanted.free rfl) (E.append (T := RMsg) rfl rfl rfl el35 el35.noInt rfl rfl pickX (Src.sl (by decide) memX) (by first | omega | (simp; omega)) (by first | omega | (simp; omega))) rfl ?_
 intro _ _ hK18
 try rw [List.nil_append] at hK18
 try rw [Nat.zero_add] at hK18
 obtain ⟨a22, c22, rfl, rfl⟩ := hK18
 refine RL.val (Wanted.free rfl) (V.move rfl rfl) rfl ?_
 refine RL.eff (Wanted.free rfl) (E.append (T := RMsg) rfl rfl rfl el35 el35.noInt rfl rfl pickX (Src.sl (by decide) memX) (by first | omega | (simp; omega)) (by first | omega | (simp; omega))) rfl ?_
 intro _ _ hK20
 try rw [List.nil_append] at hK20
 try rw [Nat.zero_add] at hK20
 obtain ⟨a24, c24, rfl, rfl⟩ := hK20
 refine RL.val (Wanted.free rfl) (V.buildS [(0, _), (1, _)] rfl bs37 (by exact ⟨rfl, ⟨_, rfl, rfl⟩, ⟨rfl, ⟨_, rfl, rfl⟩, trivial⟩⟩) rfl) rfl ?_
 refine RL.eff (Wanted.free rfl) (E.storeWhole rfl rfl rfl (by rfl) sz37 pickX (by first | (simp [Value.oneCell']; done) | (simp [setAt, Value.oneCell']; done)) (by rfl)) rfl ?_
 rintro _ _ rfl
 refine RL.nil ?_
 refine SG.publish (T := RPeer) (a := a13) pickX ?_
 refine SG.publish (T := RMsg) (a := a24) pickX ?_
 refine SG.ent (RClu.mk (c := c.put i (p, ms)) (na := a13) (nn := c.nodes.length) (nc := c13) (sa := a24) (sn := c.sent.length + ms.length) (sc := c24) memX memX) ?_
 refine SG.retE (Ret.r1 Try.func78 rfl (.agg rfl ag37 pickX rfl rfl)) ?_ ⟨[.slice a13 c.nodes.length c13, .slice a24 (c.sent.length + ms.length) c24], rfl, rfl⟩
 exact entX

end Go.Proofs.Ytilcnglcflohoaa
