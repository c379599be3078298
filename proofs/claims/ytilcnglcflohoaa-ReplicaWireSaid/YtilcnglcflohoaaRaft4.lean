/- Bounds, and the steps of a cluster. -/
import Derived.Test.YtilcnglcflohoaaRaft3
namespace Go.Rp

def PB (s : Int) (p : Peer) : Prop := p.term ≤ s ∧ (p.log.length : Int) ≤ s ∧ ∀ x ∈ p.log, x.data.length ≤ 4000
def MB (s : Int) (m : Msg) : Prop := m.term ≤ s ∧ m.index + (m.slots.length : Int) ≤ s ∧ m.prev ≤ s ∧ m.commit ≤ s ∧ ∀ x ∈ m.slots, x.data.length ≤ 4000
theorem PB.mono {s s' : Int} {p : Peer} (h : PB s p) (hs : s ≤ s') : PB s' p := ⟨by have := h.1; omega, by have := h.2.1; omega, h.2.2⟩
theorem MB.mono {s s' : Int} {m : Msg} (h : MB s m) (hs : s ≤ s') : MB s' m := by obtain ⟨a, b, c, d, e⟩ := h; exact ⟨by omega, by omega, by omega, by omega, e⟩

section
variable {N : Nat} {G : Gh} {j : Int} {p : Peer} {s : Int}
theorem termAt_le {l : List Slot} {T : Int} (h : wf G l T) (hT : 0 ≤ T) {i : Int} (h1 : i ≤ l.length) (h0 : 0 ≤ i) : termAt l i ≤ T := by
  by_cases e : i = 0
  · rw [e, termAt_zero]; omega
  · obtain ⟨s, a, b⟩ := termAt_pos (l := l) (i := i) (by omega) h1
    have := (h _ s a).2.1
    omega
theorem others_length (p : Peer) (f : Int → Msg) : (others p f).length ≤ p.nodes.toNat := by
  unfold others
  rw [List.length_map]
  exact Nat.le_trans (List.length_filter_le _ _) (by rw [List.length_range]; exact Nat.le_refl _)
theorem campaign_b (h : NOK N G j p) (hb : PB s p) (hN : N ≤ 5) : PB (s + 1) (campaign p).1 ∧ (∀ x ∈ (campaign p).2, MB (s + 1) x) ∧ (campaign p).2.length ≤ 5 := by
  have hid := h.nodes
  have ht := h.term
  obtain ⟨b1, b2, b3⟩ := hb
  refine ⟨?_, fun x hx => ?_, ?_⟩
  · show PB (s + 1) (if p.nodes = 1 then leadP (campQ p) else campQ p)
    split
    · exact ⟨by show p.term + 1 ≤ s + 1; omega, by show (p.log.length : Int) ≤ s + 1; omega, b3⟩
    · exact ⟨by show p.term + 1 ≤ s + 1; omega, by show (p.log.length : Int) ≤ s + 1; omega, b3⟩
  · obtain ⟨i, _, _, rfl⟩ := mem_others hx
    have := termAt_le h.wfl ht (i := p.log.length) (Int.le_refl _) (by omega)
    exact ⟨by show p.term + 1 ≤ s + 1; omega, by show (p.log.length : Int) + (([] : List Slot).length : Int) ≤ s + 1; simp; omega, by show termAt p.log p.log.length ≤ s + 1; omega, by show 0 ≤ s + 1; omega, fun x hx => (by cases hx)⟩
  · have := others_length p (campM p)
    show (others p (campM p)).length ≤ 5
    omega
theorem propose_b (hb : PB s p) {data : List UInt8} (hd : data.length ≤ 4000) : PB (s + 1) (propose p data) := by
  obtain ⟨b1, b2, b3⟩ := hb
  refine ⟨by show p.term ≤ s + 1; omega, by show ((p.log ++ [(⟨p.term, data⟩ : Slot)]).length : Int) ≤ s + 1; simp; omega, fun x hx => ?_⟩
  have hx' : x ∈ p.log ++ [⟨p.term, data⟩] := hx
  rcases List.mem_append.1 hx' with h | h
  · exact b3 x h
  · have : x = ⟨p.term, data⟩ := by simpa using h
    rw [this]; exact hd
theorem beat_b (hG : GOK N G) (h : NOK N G j p) (hb : PB s p) (hN : N ≤ 5) : (∀ x ∈ beat p, MB s x) ∧ (beat p).length ≤ 5 := by
  have hid := h.nodes
  have ht := h.term
  have hcom := h.com
  have hnn := h.nodes
  obtain ⟨b1, b2, b3⟩ := hb
  refine ⟨fun x hx => ?_, ?_⟩
  · unfold beat at hx
    split at hx
    · rename_i hr
      obtain ⟨i, a, b, rfl⟩ := mem_others hx
      obtain ⟨m, hm, hd, h0, h1, h2⟩ := mtch_le hG h hr (i := i) (by omega)
      have hd' : p.mtch.getD ((i : Int).toNat) 0 = m := by rw [Int.toNat_natCast]; exact hd
      have := termAt_le h.wfl ht h1 h0
      refine ⟨b1, ?_, ?_, ?_, fun x hx => ?_⟩
      · show p.mtch.getD ((i : Int).toNat) 0 + ((p.log.drop (p.mtch.getD ((i : Int).toNat) 0).toNat).length : Int) ≤ s
        rw [hd', List.length_drop]; omega
      · show termAt p.log (p.mtch.getD ((i : Int).toNat) 0) ≤ s
        rw [hd']; omega
      · show p.commit ≤ s
        have := hcom.2.1
        omega
      · exact b3 x (List.mem_of_mem_drop hx)
    · cases hx
  · unfold beat
    split
    · have := others_length p (beatM p)
      omega
    · simp
theorem merge_length (log : List Slot) : ∀ (slots : List Slot) (k : Nat), k ≤ log.length → (merge log k slots).length ≤ max log.length (k + slots.length)
  | [], k, _ => by simp only [merge]; omega
  | s :: r, k, hk => by
    unfold merge
    split
    · rename_i h
      have := merge_length log r (k + 1) (by omega)
      simp only [List.length_cons]; omega
    · simp only [List.length_append, List.length_take, List.length_cons]; omega
theorem merge_mem (log : List Slot) : ∀ (slots : List Slot) (k : Nat) (x : Slot), x ∈ merge log k slots → x ∈ log ∨ x ∈ slots
  | [], _, x, h => .inl h
  | s :: r, k, x, h => by
    unfold merge at h
    split at h
    · exact (merge_mem log r (k + 1) x h).imp id (List.mem_cons_of_mem _)
    · rcases List.mem_append.1 h with h | h
      · exact .inl (List.mem_of_mem_take h)
      · exact .inr h
theorem handleQ_b (hT : 0 ≤ p.term) (hb : PB s p) {m : Msg} (hm : MB s m) (h0 : 0 ≤ m.index) : PB s (handleQ p m).1 ∧ (∀ x ∈ (handleQ p m).2, MB s x) ∧ (handleQ p m).2.length ≤ 1 := by
  obtain ⟨b1, b2, b3⟩ := hb
  obtain ⟨m1, m2, m3, m4, m5⟩ := hm
  have hb' : PB s p := ⟨b1, b2, b3⟩
  unfold handleQ
  split
  · refine ⟨?_, fun x hx => ?_, by simp⟩
    · show PB s (voteP p m)
      unfold voteP; split
      · exact ⟨b1, b2, b3⟩
      · exact hb'
    · have hx : x = voteM p m := by simpa using hx
      subst hx
      exact ⟨b1, by show (0 : Int) + (([] : List Slot).length : Int) ≤ s; simp; omega, by show 0 ≤ s; omega, by show 0 ≤ s; omega, fun x hx => (by cases hx)⟩
  split
  · refine ⟨?_, fun x hx => (by cases hx), by simp⟩
    show PB s (if _ then _ else _)
    split
    · exact hb'
    · unfold votedP
      split
      · exact hb'
      · split
        · exact ⟨b1, b2, b3⟩
        · exact ⟨b1, b2, b3⟩
  have hno : MB s (noM p m) := ⟨b1, by show (0 : Int) + (([] : List Slot).length : Int) ≤ s; simp; omega, by show 0 ≤ s; omega, by show 0 ≤ s; omega, fun x hx => (by cases hx)⟩
  split
  · unfold store
    split
    · exact ⟨hb', fun x hx => (by rw [show x = noM p m by simpa using hx]; exact hno), by simp⟩
    · split
      · exact ⟨⟨b1, b2, b3⟩, fun x hx => (by rw [show x = noM p m by simpa using hx]; exact hno), by simp⟩
      · rename_i hmi
        unfold misses at hmi
        have hle : m.index ≤ p.log.length := by omega
        refine ⟨⟨b1, ?_, fun x hx => ?_⟩, fun x hx => ?_, by simp⟩
        · show ((merge p.log m.index.toNat m.slots).length : Int) ≤ s
          have := merge_length p.log m.slots m.index.toNat (by omega)
          omega
        · rcases merge_mem _ _ _ _ hx with h | h
          · exact b3 x h
          · exact m5 x h
        · rw [show x = yesM p m by simpa using hx]
          exact ⟨b1, by show ends m + (([] : List Slot).length : Int) ≤ s; simp [ends]; omega, by show 0 ≤ s; omega, by show 0 ≤ s; omega, fun x hx => by cases hx⟩
  · refine ⟨?_, fun x hx => (by cases hx), by simp⟩
    show PB s (if _ then _ else _)
    split
    · exact hb'
    · unfold storedP
      split
      · exact hb'
      · exact ⟨b1, b2, b3⟩
theorem handle_b (hT : 0 ≤ p.term) (hb : PB s p) {m : Msg} (hm : MB s m) (h0 : 0 ≤ m.index) : PB s (handle p m).1 ∧ (∀ x ∈ (handle p m).2, MB s x) ∧ (handle p m).2.length ≤ 1 := by
  unfold handle
  split
  · exact ⟨hb, fun x hx => (by cases hx), by simp⟩
  · refine handleQ_b ?_ ?_ hm h0
    · unfold raised; split
      · show 0 ≤ m.term; omega
      · exact hT
    · unfold raised; split
      · exact ⟨hm.1, hb.2⟩
      · exact hb
end

/- CLUSTERS -/
def Clu.p (c : Clu) (i : Nat) : Peer := c.nodes.getD i default
def Clu.put (c : Clu) (i : Nat) (x : Peer × List Msg) : Clu := ⟨c.nodes.set i x.1, c.sent ++ x.2⟩
def cCamp (c : Clu) (i : Nat) : Clu := c.put i (campaign (c.p i))
def cProp (c : Clu) (i : Nat) (data : List UInt8) : Clu := if (c.p i).role ≠ 2 ∨ 4000 < data.length then c else c.put i (propose (c.p i) data, [])
def cBeat (c : Clu) (i : Nat) : Clu := c.put i (c.p i, beat (c.p i))
def cRest (c : Clu) (i : Nat) : Clu := c.put i (restart (c.p i), [])
def cArr (c : Clu) (k : Nat) : Clu := c.put (c.sent.getD k default).to.toNat (handle (c.p (c.sent.getD k default).to.toNat) (c.sent.getD k default))
structure CB (N : Nat) (s : Nat) (c : Clu) : Prop where
  node : ∀ (i : Nat) p, c.nodes[i]? = some p → PB s p
  msg : ∀ m ∈ c.sent, MB s m
  len : c.sent.length ≤ 5 * s
/-- A cluster that may come up, after s steps. -/
def Reach (N : Nat) (G : Gh) (s : Nat) (c : Clu) : Prop := CInv N G c ∧ CB N s c

section
variable {N : Nat} {G : Gh} {s : Nat} {c : Clu}
theorem Clu.p_get {i : Nat} (h : i < c.nodes.length) : c.nodes[i]? = some (c.p i) := by
  rw [Clu.p, List.getD_eq_getElem?_getD, List.getElem?_eq_getElem h]; rfl
theorem Reach.put {G' : Gh} {i : Nat} {x : Peer × List Msg} (h : Reach N G s c) (hx : Ext i G G') (hg : GOK N G') (hp : NOK N G' i x.1) (hl : ∀ y ∈ x.2, MOK N G' y) (bp : PB ((s + 1 : Nat) : Int) x.1) (bl : ∀ y ∈ x.2, MB ((s + 1 : Nat) : Int) y) (hlen : x.2.length ≤ 5) : Reach N G' (s + 1) (c.put i x) :=
  ⟨h.1.put hx hg hp hl, {
    node := fun k q hq => by
      rcases set_get hq with ⟨rfl, rfl⟩ | ⟨_, e⟩
      · exact bp
      · exact (h.2.node k q e).mono (by omega)
    msg := fun m hm => by
      rcases List.mem_append.1 hm with hm | hm
      · exact (h.2.msg m hm).mono (by omega)
      · exact bl m hm
    len := by
      show (c.sent ++ x.2).length ≤ _
      have := h.2.len
      rw [List.length_append]; omega }⟩
theorem Reach.weak (h : Reach N G s c) : Reach N G (s + 1) c := ⟨h.1, ⟨fun i p hp => (h.2.node i p hp).mono (by omega), fun m hm => (h.2.msg m hm).mono (by omega), by have := h.2.len; omega⟩⟩
theorem Reach.camp (h : Reach N G s c) (hN : N ≤ 5) {i : Nat} (hi : i < N) : ∃ G', Le G G' ∧ Reach N G' (s + 1) (cCamp c i) := by
  have hg := Clu.p_get (c := c) (i := i) (by rw [h.1.len]; exact hi)
  have hn := h.1.node i _ hg
  obtain ⟨G', a, b, d, e⟩ := campaign_ok h.1.g hn
  obtain ⟨f, g, k⟩ := campaign_b hn (h.2.node i _ hg) hN
  exact ⟨G', a.toLe, h.put a b d e f g k⟩
theorem Reach.prop (h : Reach N G s c) {i : Nat} (hi : i < N) {data : List UInt8} : ∃ G', Le G G' ∧ Reach N G' (s + 1) (cProp c i data) := by
  have hg := Clu.p_get (c := c) (i := i) (by rw [h.1.len]; exact hi)
  have hn := h.1.node i _ hg
  unfold cProp
  split
  · exact ⟨G, Le.refl G, h.weak⟩
  · obtain ⟨G', a, b, d⟩ := propose_ok h.1.g hn (by omega) data
    exact ⟨G', a.toLe, h.put a b d (fun y hy => by cases hy) (propose_b (h.2.node i _ hg) (by omega)) (fun y hy => by cases hy) (by simp)⟩
theorem Reach.beat (h : Reach N G s c) (hN : N ≤ 5) {i : Nat} (hi : i < N) : Reach N G (s + 1) (cBeat c i) := by
  have hg := Clu.p_get (c := c) (i := i) (by rw [h.1.len]; exact hi)
  have hn := h.1.node i _ hg
  obtain ⟨a, b⟩ := beat_b h.1.g hn (h.2.node i _ hg) hN
  exact h.put (Ext.refl _ _) h.1.g hn (beat_ok h.1.g hn) ((h.2.node i _ hg).mono (by omega)) (fun y hy => (a y hy).mono (by omega)) b
theorem Reach.rest (h : Reach N G s c) {i : Nat} (hi : i < N) : Reach N G (s + 1) (cRest c i) := by
  have hg := Clu.p_get (c := c) (i := i) (by rw [h.1.len]; exact hi)
  have hn := h.1.node i _ hg
  exact h.put (Ext.refl _ _) h.1.g (restart_ok hn) (fun y hy => by cases hy) (by have := h.2.node i _ hg; exact ⟨by have := this.1; show (c.p i).term ≤ _; omega, by have := this.2.1; show ((c.p i).log.length : Int) ≤ _; omega, this.2.2⟩) (fun y hy => by cases hy) (by simp)
theorem sent_get {k : Nat} (h : k < c.sent.length) : c.sent.getD k default ∈ c.sent := by
  rw [List.getD_eq_getElem?_getD, List.getElem?_eq_getElem h]; exact List.getElem_mem h
theorem Reach.arr (h : Reach N G s c) {k : Nat} (hk : k < c.sent.length) : ∃ G', Le G G' ∧ Reach N G' (s + 1) (cArr c k) := by
  have hm := h.1.msg _ (sent_get hk)
  have hto := hm.to
  have hg := Clu.p_get (c := c) (i := (c.sent.getD k default).to.toNat) (by rw [h.1.len]; omega)
  have hn := h.1.node _ _ hg
  obtain ⟨G', a, b, d, e⟩ := handle_ok h.1.g hn hm (by omega)
  obtain ⟨f, g, l⟩ := handle_b hn.term (h.2.node _ _ hg) (h.2.msg _ (sent_get hk)) hm.nat.1
  exact ⟨G', a.toLe, h.put a b d e (f.mono (by omega)) (fun y hy => (g y hy).mono (by omega)) (by omega)⟩
theorem Reach.past (h : Reach N G s c) : Past N G c := h.1.past
end

def clu0 (N : Nat) : Clu := ⟨(List.range N).map fun i : Nat => newP i N, []⟩
theorem reach0 (N : Nat) : Reach N gh0 0 (clu0 N) :=
  ⟨{ len := by simp [clu0], g := gh0_ok N
     node := fun i p hp => by
       obtain ⟨a, b, e⟩ := List.mem_map.1 (List.mem_of_getElem? hp)
       have hlt := (List.getElem?_eq_some_iff.1 hp).1
       have : p = newP i N := by
         have h2 : ((List.range N).map fun i : Nat => newP i N)[i]? = some p := hp
         rw [List.getElem?_map, List.getElem?_range (by simpa [clu0] using hlt)] at h2
         simpa using h2.symm
       rw [this]
       exact new_ok (by omega) (by have : i < N := by simpa [clu0] using hlt
                                   omega)
     msg := fun m hm => by cases hm },
   { node := fun i p hp => by
       have h2 : ((List.range N).map fun i : Nat => newP i N)[i]? = some p := hp
       have hlt := (List.getElem?_eq_some_iff.1 hp).1
       rw [List.getElem?_map, List.getElem?_range (by simpa [clu0] using hlt)] at h2
       have : p = newP i N := by simpa using h2.symm
       rw [this]
       exact ⟨Int.le_refl _, Int.le_refl _, fun x hx => by cases hx⟩
     msg := fun m hm => by cases hm
     len := Nat.zero_le _ }⟩
end Go.Rp
