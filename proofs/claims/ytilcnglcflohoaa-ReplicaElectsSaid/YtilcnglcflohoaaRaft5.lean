/- Terms never sink, and no vote changes within a term. -/
import Derived.Test.YtilcnglcflohoaaRaft4
namespace Go.Rp
def VStep (p q : Peer) : Prop := p.term ≤ q.term ∧ (p.term = q.term → 0 ≤ p.voted → q.voted = p.voted)
theorem VStep.refl (p : Peer) : VStep p p := ⟨Int.le_refl _, fun _ _ => rfl⟩
theorem VStep.same {p q : Peer} (h : q.term = p.term) (h' : q.voted = p.voted) : VStep p q := ⟨by omega, fun _ _ => h'⟩
theorem VStep.trans {p q r : Peer} (h : VStep p q) (h' : VStep q r) : VStep p r :=
  ⟨Int.le_trans h.1 h'.1, fun e v => by
    have h1 := h.1
    have h2 := h'.1
    have a := h.2 (by omega) v
    have b := h'.2 (by omega) (by omega)
    rw [b, a]⟩
theorem campaign_v (p : Peer) : VStep p (campaign p).1 := by
  have : (campaign p).1.term = p.term + 1 := by
    show (if p.nodes = 1 then leadP (campQ p) else campQ p).term = _
    split <;> rfl
  exact ⟨by omega, fun e => by omega⟩
theorem raised_v (p : Peer) (m : Msg) : VStep p (raised p m) := by
  unfold raised
  split
  · rename_i h
    exact ⟨by show p.term ≤ m.term; omega, fun e => by have e : p.term = m.term := e; omega⟩
  · exact .refl p
theorem handleQ_v (q : Peer) (m : Msg) : VStep q (handleQ q m).1 := by
  unfold handleQ
  split
  · show VStep q (voteP q m)
    unfold voteP
    split
    · rename_i h
      exact ⟨Int.le_refl _, fun _ v => by
        show m.frm = q.voted
        rcases h.2.2 with e | e
        · omega
        · exact e.symm⟩
    · exact .refl q
  split
  · show VStep q (if _ then q else votedP q m)
    split
    · exact .refl q
    · unfold votedP
      split
      · exact .refl q
      · split <;> exact .same rfl rfl
  split
  · unfold store
    split
    · exact .refl q
    · split <;> exact .same rfl rfl
  · show VStep q (if _ then q else storedP q m)
    split
    · exact .refl q
    · unfold storedP
      split
      · exact .refl q
      · exact .same rfl rfl
theorem handle_v (p : Peer) (m : Msg) : VStep p (handle p m).1 := by
  unfold handle
  split
  · exact .refl p
  · exact (raised_v p m).trans (handleQ_v _ m)
theorem put_v {c : Clu} {i : Nat} {x : Peer × List Msg} (h : VStep (c.p i) x.1) (j : Nat) : VStep (c.p j) ((c.put i x).p j) := by
  by_cases e : i = j ∧ i < c.nodes.length
  · obtain ⟨rfl, hi⟩ := e
    have : (c.put i x).p i = x.1 := by
      show (c.nodes.set i x.1).getD i default = x.1
      rw [List.getD_eq_getElem?_getD, List.getElem?_set, if_pos rfl, if_pos hi]; rfl
    rw [this]; exact h
  · have : (c.put i x).p j = c.p j := by
      show (c.nodes.set i x.1).getD j default = c.nodes.getD j default
      rw [List.getD_eq_getElem?_getD, List.getD_eq_getElem?_getD, List.getElem?_set]
      by_cases e1 : i = j
      · subst e1
        rw [if_pos rfl, if_neg (fun h => e ⟨rfl, h⟩), List.getElem?_eq_none (by
          have := fun h => e ⟨rfl, h⟩
          omega)]
      · rw [if_neg e1]
    rw [this]; exact .refl _
theorem cCamp_v (c : Clu) (i j : Nat) : VStep (c.p j) ((cCamp c i).p j) := put_v (campaign_v _) j
theorem cProp_v (c : Clu) (i : Nat) (d : List UInt8) (j : Nat) : VStep (c.p j) ((cProp c i d).p j) := by
  unfold cProp
  split
  · exact .refl _
  · exact put_v (.same rfl rfl) j
theorem cBeat_v (c : Clu) (i j : Nat) : VStep (c.p j) ((cBeat c i).p j) := put_v (.refl _) j
theorem cRest_v (c : Clu) (i j : Nat) : VStep (c.p j) ((cRest c i).p j) := put_v (.same rfl rfl) j
theorem cArr_v (c : Clu) (k j : Nat) : VStep (c.p j) ((cArr c k).p j) := put_v (handle_v _ _) j
end Go.Rp
