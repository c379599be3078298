/- A second arrival of a message; what the messages that were sent hold. -/
import Derived.Test.YtilcnglcflohoaaRaft6
namespace Go.Rp

theorem merge_has {log : List Slot} : ∀ (slots : List Slot) (k : Nat), k ≤ log.length → k + slots.length ≤ (merge log k slots).length ∧ (∀ j, j < k → (merge log k slots)[j]? = log[j]?) ∧ ∀ j s, slots[j]? = some s → ∃ x, (merge log k slots)[k + j]? = some x ∧ x.term = s.term
  | [], k, hk => ⟨by simp only [merge, List.length_nil]; omega, fun _ _ => rfl, fun j s h => by simp at h⟩
  | s :: r, k, hk => by
    unfold merge
    split
    · rename_i h
      obtain ⟨a, b, c⟩ := merge_has (log := log) r (k + 1) h.1
      refine ⟨by simp only [List.length_cons]; omega, fun j hj => b j (by omega), fun j y hy => ?_⟩
      cases j with
      | zero =>
        simp only [List.getElem?_cons_zero, Option.some.injEq] at hy
        subst hy
        refine ⟨log[k], ?_, ?_⟩
        · show (merge log (k + 1) r)[k]? = _
          rw [b k (by omega), List.getElem?_eq_getElem h.1]
        · rw [← h.2, List.getD_eq_getElem?_getD, List.getElem?_eq_getElem h.1]; rfl
      | succ j =>
        rw [List.getElem?_cons_succ] at hy
        obtain ⟨x, hx, e⟩ := c j y hy
        exact ⟨x, by rw [show k + (j + 1) = k + 1 + j from by omega]; exact hx, e⟩
    · have hl : (log.take k).length = k := by rw [List.length_take]; omega
      refine ⟨by rw [List.length_append, hl]; simp, fun j hj => ?_, fun j y hy => ⟨y, ?_, rfl⟩⟩
      · rw [List.getElem?_append_left (by omega), List.getElem?_take_of_lt hj]
      · rw [List.getElem?_append_right (by omega), hl, Nat.add_sub_cancel_left]; exact hy
theorem merge_same {L : List Slot} : ∀ (slots : List Slot) (k : Nat), k + slots.length ≤ L.length → (∀ j s, slots[j]? = some s → ∃ x, L[k + j]? = some x ∧ x.term = s.term) → merge L k slots = L
  | [], _, _, _ => rfl
  | s :: r, k, hk, h => by
    simp only [List.length_cons] at hk
    obtain ⟨x, hx, e⟩ := h 0 s rfl
    unfold merge
    rw [if_pos ⟨by omega, by rw [List.getD_eq_getElem?_getD, show k = k + 0 from rfl, hx]; exact e⟩]
    exact merge_same r (k + 1) (by omega) fun j y hy => by
      obtain ⟨x, hx, e⟩ := h (j + 1) y (by rw [List.getElem?_cons_succ]; exact hy)
      exact ⟨x, by rw [show k + 1 + j = k + (j + 1) from by omega]; exact hx, e⟩
theorem merge_idem {log slots : List Slot} {k : Nat} (h : k ≤ log.length) : merge (merge log k slots) k slots = merge log k slots := by
  obtain ⟨a, _, c⟩ := merge_has (log := log) slots k h
  exact merge_same slots k a c

/-- The same but for what counts votes and slots. -/
def like (a f : Peer) : Prop := { f with role := a.role, votes := a.votes, mtch := a.mtch } = a
theorem like.refl (a : Peer) : like a a := rfl
theorem like.of {a f : Peer} (h1 : f.id = a.id) (h2 : f.nodes = a.nodes) (h3 : f.term = a.term) (h4 : f.voted = a.voted) (h5 : f.commit = a.commit) (h6 : f.log = a.log) : like a f := by
  cases a; cases f; simp only at h1 h2 h3 h4 h5 h6; subst h1; subst h2; subst h3; subst h4; subst h5; subst h6; rfl
theorem votedP_like (q : Peer) (m : Msg) : like q (votedP q m) := by
  unfold votedP
  split
  · rfl
  · split <;> exact .of rfl rfl rfl rfl rfl rfl
theorem handleQ_keep (q : Peer) (m : Msg) : (handleQ q m).1.id = q.id ∧ (handleQ q m).1.nodes = q.nodes ∧ (handleQ q m).1.term = q.term := by
  unfold handleQ
  split
  · show (voteP q m).id = _ ∧ _; unfold voteP; split <;> exact ⟨rfl, rfl, rfl⟩
  split
  · show (ite _ q (votedP q m)).id = _ ∧ _
    split
    · exact ⟨rfl, rfl, rfl⟩
    · unfold votedP; split
      · exact ⟨rfl, rfl, rfl⟩
      · split <;> exact ⟨rfl, rfl, rfl⟩
  split
  · unfold store; split
    · exact ⟨rfl, rfl, rfl⟩
    · split <;> exact ⟨rfl, rfl, rfl⟩
  · show (ite _ q (storedP q m)).id = _ ∧ _
    split
    · exact ⟨rfl, rfl, rfl⟩
    · unfold storedP; split <;> exact ⟨rfl, rfl, rfl⟩
theorem handleQ_twice {q : Peer} {m : Msg} (hf : m.frm.toNat < q.nodes.toNat) (hmn : q.role = 2 → q.mtch.length = q.nodes.toNat) : like (handleQ q m).1 (handleQ (handleQ q m).1 m).1 := by
  by_cases k1 : m.kind = 1
  · rw [hq1 k1, hq1 k1]
    show like (voteP q m) (voteP (voteP q m) m)
    unfold voteP
    split
    · split <;> rfl
    · exact .refl _
  by_cases k2 : m.kind = 2
  · rw [hq2 k2, hq2 k2]
    show like (ite _ q (votedP q m)) (ite _ (ite _ q (votedP q m)) (votedP (ite _ q (votedP q m)) m))
    split
    · exact .refl _
    · split
      · exact .refl _
      · exact votedP_like _ _
  by_cases k3 : m.kind = 3
  · rw [hq3 k3, hq3 k3]
    by_cases h1 : m.term < q.term ∨ q.role = 2
    · have e : Rp.store q m = (q, [noM q m]) := if_pos h1
      rw [e]; show like q (Rp.store q m).1; rw [e]; exact .refl _
    by_cases h2 : misses q m
    · have e : Rp.store q m = (followP q, [noM q m]) := by unfold store; rw [if_neg h1, if_pos h2]
      have e2 : Rp.store (followP q) m = (followP q, [noM (followP q) m]) := by
        unfold store; rw [if_neg (fun h => h1 (.inl (h.elim id fun h => by cases h))), if_pos (show misses (followP q) m from h2)]; rfl
      rw [e]; show like (followP q) (Rp.store (followP q) m).1; rw [e2]; exact .refl _
    · have e : Rp.store q m = (storeP (followP q) m, [yesM q m]) := by unfold store; rw [if_neg h1, if_neg h2]
      rw [e]
      show like (storeP (followP q) m) (Rp.store (storeP (followP q) m) m).1
      unfold store
      rw [if_neg (fun h => h1 (.inl (h.elim id fun h => by cases h)))]
      split
      · exact .of rfl rfl rfl rfl rfl rfl
      · refine .of rfl rfl rfl rfl ?_ ?_
        · show max (max q.commit (min m.commit (ends m))) (min m.commit (ends m)) = max q.commit (min m.commit (ends m)); omega
        · show merge (merge q.log m.index.toNat m.slots) m.index.toNat m.slots = merge q.log m.index.toNat m.slots
          exact merge_idem (by unfold misses at h2; omega)
  · have e4 : ∀ q, (handleQ q m).1 = if m.term < q.term ∨ m.yes = false then q else storedP q m := fun q => by unfold handleQ; rw [if_neg k1, if_neg k2, if_neg k3]
    rw [e4, e4]
    split
    · exact .refl _
    · skip
      · by_cases h : q.role ≠ 2 ∨ (q.log.length : Int) < m.index ∨ m.index ≤ q.mtch.getD m.frm.toNat 0
        · have e : storedP q m = q := if_pos h
          rw [e, e]; split <;> exact .refl _
        · have e : storedP q m = counted { q with mtch := q.mtch.set m.frm.toNat m.index } := if_neg h
          have hl := hmn (by omega)
          have e2 : storedP (storedP q m) m = storedP q m := by
            refine if_pos (.inr (.inr ?_))
            rw [e]
            show m.index ≤ (q.mtch.set m.frm.toNat m.index).getD m.frm.toNat 0
            rw [List.getD_eq_getElem?_getD, List.getElem?_set_self (by omega)]
            exact Int.le_refl _
          rw [e2]; split <;> exact .refl _
theorem raised_keep (p : Peer) (m : Msg) : (raised p m).id = p.id ∧ (raised p m).nodes = p.nodes ∧ m.term ≤ (raised p m).term := by
  unfold raised; split
  · exact ⟨rfl, rfl, Int.le_refl _⟩
  · exact ⟨rfl, rfl, by omega⟩
theorem handle_twice {p : Peer} {m : Msg} (hmn : (raised p m).role = 2 → (raised p m).mtch.length = p.nodes.toNat) : like (handle p m).1 (handle (handle p m).1 m).1 := by
  by_cases hs : strange p m
  · have e : handle p m = (p, []) := if_pos hs
    rw [e]; show like p (handle p m).1; rw [e]; exact .refl _
  · obtain ⟨r1, r2, r3⟩ := raised_keep p m
    obtain ⟨a1, a2, a3⟩ := handleQ_keep (raised p m) m
    have e : handle p m = handleQ (raised p m) m := if_neg hs
    rw [e]
    have hs2 : ¬ strange (handleQ (raised p m) m).1 m := by unfold strange at hs ⊢; rw [a1, a2, r1, r2]; exact hs
    have e2 : handle (handleQ (raised p m) m).1 m = handleQ (handleQ (raised p m) m).1 m := by
      unfold handle; rw [if_neg hs2]
      rw [show raised (handleQ (raised p m) m).1 m = (handleQ (raised p m) m).1 from if_neg (by omega)]
    rw [e2]
    unfold strange at hs
    exact handleQ_twice (by rw [r2]; omega) (by rw [r2]; exact hmn)

/-- Slots stand only in what a leader sends. -/
def Quiet (c : Clu) : Prop := ∀ m ∈ c.sent, m.kind ≠ 3 → m.slots = []
theorem Quiet.put {c : Clu} (h : Quiet c) {i : Nat} {x : Peer × List Msg} (hx : ∀ m ∈ x.2, m.kind ≠ 3 → m.slots = []) : Quiet (c.put i x) := fun m hm => by
  have hm' : m ∈ c.sent ++ x.2 := hm
  rcases List.mem_append.1 hm' with h1 | h1
  · exact h m h1
  · exact hx m h1
theorem campaign_quiet (p : Peer) : ∀ m ∈ (campaign p).2, m.kind ≠ 3 → m.slots = [] := fun m hm _ => by
  have hm' : m ∈ others p (campM p) := hm
  obtain ⟨i, _, _, rfl⟩ := mem_others hm'; rfl
theorem beat_quiet (p : Peer) : ∀ m ∈ beat p, m.kind ≠ 3 → m.slots = [] := fun m hm hk => by
  unfold beat at hm
  split at hm
  · obtain ⟨i, _, _, rfl⟩ := mem_others hm; exact absurd rfl hk
  · cases hm
theorem handle_quiet2 (p : Peer) (x : Msg) : ∀ m ∈ (handle p x).2, m.kind ≠ 3 → m.slots = [] := fun m hm _ => by
  unfold handle at hm
  split at hm
  · cases hm
  · unfold handleQ at hm
    split at hm
    · have : m = voteM (raised p x) x := by simpa using hm
      subst this; rfl
    split at hm
    · cases hm
    split at hm
    · unfold store at hm
      split at hm
      · have : m = noM (raised p x) x := by simpa using hm
        subst this; rfl
      · split at hm
        · have : m = noM (raised p x) x := by simpa using hm
          subst this; rfl
        · have : m = yesM (raised p x) x := by simpa using hm
          subst this; rfl
    · cases hm
theorem Quiet.camp {c : Clu} (h : Quiet c) (i : Nat) : Quiet (cCamp c i) := h.put (campaign_quiet _)
theorem Quiet.prop {c : Clu} (h : Quiet c) (i : Nat) (d : List UInt8) : Quiet (cProp c i d) := by
  unfold cProp; split
  · exact h
  · exact h.put fun _ hm => by cases hm
theorem Quiet.beat {c : Clu} (h : Quiet c) (i : Nat) : Quiet (cBeat c i) := h.put (beat_quiet _)
theorem Quiet.rest {c : Clu} (h : Quiet c) (i : Nat) : Quiet (cRest c i) := h.put fun _ hm => by cases hm
theorem Quiet.arr {c : Clu} (h : Quiet c) (k : Nat) : Quiet (cArr c k) := h.put (handle_quiet2 _ _)
end Go.Rp
