/- A cluster settles: messages that are delivered in order. -/
import Derived.Test.YtilcnglcflohoaaRaft4
namespace Go.Rp

/-- Messages are delivered from one on, at most so many. -/
def deliverV (c : Clu) (k : Nat) : Nat → Clu
  | 0 => c
  | n + 1 => if k < c.sent.length then deliverV (cArr c k) (k + 1) n else c
theorem deliver_end {c : Clu} {k : Nat} (h : c.sent.length ≤ k) (n : Nat) : deliverV c k n = c := by
  cases n with
  | zero => rfl
  | succ n => rw [deliverV, if_neg (by omega)]
theorem Reach.weaks {N : Nat} {G : Gh} {s : Nat} {c : Clu} (h : Reach N G s c) (n : Nat) : Reach N G (s + n) c := by
  induction n with
  | zero => exact h
  | succ n ih => exact ih.weak
theorem Reach.deliver {N : Nat} : ∀ (n : Nat) {G : Gh} {s : Nat} {c : Clu} (k : Nat), Reach N G s c → ∃ G', Le G G' ∧ Reach N G' (s + n) (deliverV c k n)
  | 0, G, _, _, _, h => ⟨G, Le.refl G, h⟩
  | n + 1, G, s, c, k, h => by
    unfold deliverV
    split
    · rename_i hk
      obtain ⟨G1, l1, h1⟩ := h.arr hk
      obtain ⟨G2, l2, h2⟩ := Reach.deliver n (k + 1) h1
      exact ⟨G2, l1.trans l2, by rw [show s + (n + 1) = s + 1 + n from by omega]; exact h2⟩
    · exact ⟨G, Le.refl G, h.weaks _⟩

/- 1. ONE MESSAGE TO EACH -/
def setAll (ns : List Peer) (is : List Nat) (f : Nat → Peer) : List Peer := is.foldl (fun ns i => ns.set i (f i)) ns
theorem setAll_len (is : List Nat) (f : Nat → Peer) : ∀ ns : List Peer, (setAll ns is f).length = ns.length := by
  induction is with
  | nil => intro ns; rfl
  | cons i is ih => intro ns; rw [show setAll ns (i :: is) f = setAll (ns.set i (f i)) is f from rfl, ih, List.length_set]
theorem getD_set_ne' {l : List Peer} {i j : Nat} {x d : Peer} (h : i ≠ j) : (l.set i x).getD j d = l.getD j d := by
  rw [List.getD_eq_getElem?_getD, List.getD_eq_getElem?_getD, List.getElem?_set_ne h]
theorem getD_set_eq' {l : List Peer} {i : Nat} {x d : Peer} (h : i < l.length) : (l.set i x).getD i d = x := by
  rw [List.getD_eq_getElem?_getD, List.getElem?_set, if_pos rfl, if_pos h]; rfl
theorem setAll_get (f : Nat → Peer) : ∀ (is : List Nat) (ns : List Peer) (j : Nat), (∀ i ∈ is, i < ns.length) → (setAll ns is f).getD j default = if j ∈ is then f j else ns.getD j default := by
  intro is
  induction is with
  | nil => intro ns j _; simp [setAll]
  | cons i is ih =>
    intro ns j h
    rw [show setAll ns (i :: is) f = setAll (ns.set i (f i)) is f from rfl, ih _ _ (fun x hx => by rw [List.length_set]; exact h x (List.mem_cons_of_mem _ hx))]
    by_cases e : j ∈ is
    · rw [if_pos e, if_pos (List.mem_cons_of_mem _ e)]
    · rw [if_neg e]
      by_cases e2 : i = j
      · subst e2
        rw [getD_set_eq' (h i (List.mem_cons_self ..)), if_pos (List.mem_cons_self ..)]
      · rw [getD_set_ne' e2, if_neg]
        intro h3
        rcases List.mem_cons.1 h3 with h3 | h3
        · exact e2 h3.symm
        · exact e h3
theorem del_each {F : Nat → Msg} {f : Nat → Peer} {g : Nat → Msg} (n : Nat) : ∀ (is : List Nat) (ns : List Peer) (pre post : List Msg), is.Nodup →
    (∀ i ∈ is, (F i).to = (i : Int) ∧ handle (ns.getD i default) (F i) = (f i, [g i])) →
    deliverV ⟨ns, pre ++ is.map F ++ post⟩ pre.length (is.length + n) = deliverV ⟨setAll ns is f, pre ++ is.map F ++ post ++ is.map g⟩ (pre.length + is.length) n := by
  intro is
  induction is with
  | nil => intro ns pre post _ _; simp [setAll]
  | cons i is ih =>
    intro ns pre post hnd h
    obtain ⟨h1, h2⟩ := h i (List.mem_cons_self ..)
    rw [List.nodup_cons] at hnd
    have hg : (pre ++ (i :: is).map F ++ post).getD pre.length default = F i := by
      rw [List.getD_eq_getElem?_getD, List.append_assoc, List.getElem?_append_right (Nat.le_refl _), Nat.sub_self]; rfl
    have hc : cArr ⟨ns, pre ++ (i :: is).map F ++ post⟩ pre.length = ⟨ns.set i (f i), (pre ++ [F i]) ++ is.map F ++ (post ++ [g i])⟩ := by
      unfold cArr
      show Clu.put _ _ _ = _
      rw [hg, h1, Int.toNat_natCast]
      show Clu.put _ i (handle (ns.getD i default) (F i)) = _
      rw [h2]
      simp [Clu.put]
    rw [show (i :: is).length + n = (is.length + n) + 1 from by simp; omega, deliverV, if_pos (by simp), hc]
    have hl : pre.length + 1 = (pre ++ [F i]).length := by simp
    rw [hl, ih (ns.set i (f i)) (pre ++ [F i]) (post ++ [g i]) hnd.2 (fun j hj => by
      obtain ⟨a, b⟩ := h j (List.mem_cons_of_mem _ hj)
      refine ⟨a, ?_⟩
      rw [getD_set_ne' (fun e => hnd.1 (by rw [e]; exact hj))]; exact b)]
    congr 1
    · simp [setAll]
    · simp; omega

/- 2. MESSAGES TO ONE -/
def foldH (p : Peer) (ms : List Msg) : Peer := ms.foldl (fun p m => (handle p m).1) p
theorem handle_quiet {p : Peer} {m : Msg} (h : m.kind = 2 ∨ m.kind = 4) : (handle p m).2 = [] := by
  unfold handle
  split
  · rfl
  · unfold handleQ
    rcases h with h | h
    · rw [if_neg (by omega), if_pos h]
    · rw [if_neg (by omega), if_neg (by omega), if_neg (by omega)]
theorem set_getD_self {l : List Peer} {b : Nat} (h : b < l.length) : l.set b (l.getD b default) = l := by
  apply List.ext_getElem?
  intro i
  by_cases e : b = i
  · subst e
    rw [List.getElem?_set, if_pos rfl, if_pos h, List.getD_eq_getElem?_getD, List.getElem?_eq_getElem h]; rfl
  · rw [List.getElem?_set_ne e]
theorem del_one {b : Nat} (n : Nat) : ∀ (ms : List Msg) (ns : List Peer) (pre : List Msg), b < ns.length → (∀ m ∈ ms, m.to = (b : Int) ∧ (m.kind = 2 ∨ m.kind = 4)) →
    deliverV ⟨ns, pre ++ ms⟩ pre.length (ms.length + n) = ⟨ns.set b (foldH (ns.getD b default) ms), pre ++ ms⟩ := by
  intro ms
  induction ms with
  | nil =>
    intro ns pre hb _
    rw [deliver_end (by simp)]
    show _ = Clu.mk (ns.set b (ns.getD b default)) _
    rw [set_getD_self hb]
  | cons m ms ih =>
    intro ns pre hb h
    obtain ⟨h1, h2⟩ := h m (List.mem_cons_self ..)
    have hg : (pre ++ m :: ms).getD pre.length default = m := by
      rw [List.getD_eq_getElem?_getD, List.getElem?_append_right (Nat.le_refl _), Nat.sub_self]; rfl
    have hc : cArr ⟨ns, pre ++ m :: ms⟩ pre.length = ⟨ns.set b (handle (ns.getD b default) m).1, (pre ++ [m]) ++ ms⟩ := by
      unfold cArr
      show Clu.put _ _ _ = _
      rw [hg, h1, Int.toNat_natCast]
      show Clu.put _ b (handle (ns.getD b default) m) = _
      unfold Clu.put
      rw [handle_quiet h2]
      simp
    rw [show (m :: ms).length + n = (ms.length + n) + 1 from by simp; omega, deliverV, if_pos (by simp), hc]
    have hl : pre.length + 1 = (pre ++ [m]).length := by simp
    rw [hl, ih _ _ (by rw [List.length_set]; exact hb) (fun x hx => h x (List.mem_cons_of_mem _ hx)), getD_set_eq' hb, List.set_set]
    simp [foldH]

/- 3. A ROUND -/
def oth (N b : Nat) : List Nat := (List.range N).filter fun i => decide (i ≠ b)
theorem mem_oth {N b i : Nat} : i ∈ oth N b ↔ i < N ∧ i ≠ b := by simp [oth]
theorem oth_nodup (N b : Nat) : (oth N b).Nodup := List.nodup_range.filter _
theorem oth_len (N b : Nat) : (oth N b).length ≤ N := by
  have := List.length_filter_le (fun i => decide (i ≠ b)) (List.range N)
  rwa [List.length_range] at this
theorem others_oth {p : Peer} {N b : Nat} (hn : p.nodes = N) (hi : p.id = b) (f : Int → Msg) : others p f = (oth N b).map fun i : Nat => f i := by
  unfold others oth
  rw [hn, hi, Int.toNat_natCast]
  congr 1
  apply List.filter_congr
  intro x _
  by_cases e : x = b
  · subst e; simp
  · have : (x : Int) ≠ (b : Int) := by omega
    simp [e, this]
theorem round {N b : Nat} {F g : Nat → Msg} {f : Nat → Peer} {c : Clu} {pre : List Msg} (hN : N ≤ 5) (hl : c.nodes.length = N) (hb : b < N) (hs : c.sent = pre ++ (oth N b).map F)
    (h : ∀ i, i < N → i ≠ b → (F i).to = (i : Int) ∧ handle (c.p i) (F i) = (f i, [g i])) (hg : ∀ i, i < N → i ≠ b → (g i).to = (b : Int) ∧ ((g i).kind = 2 ∨ (g i).kind = 4)) :
    (deliverV c pre.length 200).nodes.length = N ∧ (deliverV c pre.length 200).p b = foldH (c.p b) ((oth N b).map g) ∧ ∀ i, i < N → i ≠ b → (deliverV c pre.length 200).p i = f i := by
  have hol := oth_len N b
  have hfit : ∀ i ∈ oth N b, i < c.nodes.length := fun i hi => by rw [hl]; exact (mem_oth.1 hi).1
  have h1 := del_each (F := F) (f := f) (g := g) ((oth N b).length + (200 - 2 * (oth N b).length)) (oth N b) c.nodes pre [] (oth_nodup N b) (fun i hi => h i (mem_oth.1 hi).1 (mem_oth.1 hi).2)
  rw [List.append_nil, ← hs, show (oth N b).length + ((oth N b).length + (200 - 2 * (oth N b).length)) = 200 from by omega] at h1
  have h2 := del_one (b := b) (200 - 2 * (oth N b).length) ((oth N b).map g) (setAll c.nodes (oth N b) f) c.sent (by rw [setAll_len, hl]; exact hb) (fun m hm => by
    obtain ⟨i, hi, rfl⟩ := List.mem_map.1 hm
    exact hg i (mem_oth.1 hi).1 (mem_oth.1 hi).2)
  rw [List.length_map, show c.sent.length = pre.length + (oth N b).length from by rw [hs]; simp] at h2
  have hD : deliverV c pre.length 200 = ⟨(setAll c.nodes (oth N b) f).set b (foldH (c.p b) ((oth N b).map g)), c.sent ++ (oth N b).map g⟩ := by
    show deliverV ⟨c.nodes, c.sent⟩ pre.length 200 = _
    rw [h1, h2, setAll_get f _ _ _ hfit, if_neg (fun h => (mem_oth.1 h).2 rfl)]
    rfl
  rw [hD]
  refine ⟨by show (List.set _ _ _).length = N; rw [List.length_set, setAll_len]; exact hl, ?_, fun i hi hib => ?_⟩
  · show (List.set _ _ _).getD _ _ = _
    rw [getD_set_eq' (by rw [setAll_len, hl]; exact hb)]
  · show (List.set _ _ _).getD _ _ = _
    rw [getD_set_ne' (Ne.symm hib), setAll_get f _ _ _ hfit, if_pos (mem_oth.2 ⟨hi, hib⟩)]
theorem put_get {c : Clu} {i : Nat} (h : i < c.nodes.length) (x : Peer × List Msg) : (c.put i x).p i = x.1 := getD_set_eq' h
theorem put_get_ne {c : Clu} {i j : Nat} (h : i ≠ j) (x : Peer × List Msg) : (c.put i x).p j = c.p j := getD_set_ne' h

/- 4. AN ELECTION -/
theorem hq1 {q : Peer} {m : Msg} (h : m.kind = 1) : handleQ q m = (voteP q m, [voteM q m]) := if_pos h
theorem hq2 {q : Peer} {m : Msg} (h : m.kind = 2) : handleQ q m = (if m.term < q.term ∨ m.yes = false then q else votedP q m, []) := by unfold handleQ; rw [if_neg (by omega), if_pos h]
theorem hq3 {q : Peer} {m : Msg} (h : m.kind = 3) : handleQ q m = store q m := by unfold handleQ; rw [if_neg (by omega), if_neg (by omega), if_pos h]
theorem hq4 {q : Peer} {m : Msg} (h : m.kind = 4) : handleQ q m = (if m.term < q.term ∨ m.yes = false then q else storedP q m, []) := by unfold handleQ; rw [if_neg (by omega), if_neg (by omega), if_neg (by omega)]
def wonP (p : Peer) : Peer := leadP (campQ p)
def grantP (p : Peer) (T b : Int) : Peer := { down p T with voted := b }
def grantM (i b T : Int) : Msg := ⟨2, i, b, T, 0, 0, 0, [], true⟩
theorem handle_camp {p q : Peer} {i : Int} (hi : p.id = i) (hb : 0 ≤ q.id) (hn : q.id < p.nodes) (hne : q.id ≠ i) (ht : p.term < q.term + 1) (hg : good p.log q.log) :
    handle p (campM q i) = (grantP p (q.term + 1) q.id, [grantM i q.id (q.term + 1)]) := by
  unfold handle
  rw [if_neg (by unfold strange campM; simp only; omega)]
  have hr : raised p (campM q i) = down p (q.term + 1) := if_pos ht
  rw [hr]
  have hgr : grants (down p (q.term + 1)) (campM q i) := by
    refine ⟨rfl, ?_, .inl rfl⟩
    rcases hg with h | ⟨h, h'⟩
    · exact .inl h
    · exact .inr ⟨h.symm, by show (p.log.length : Int) ≤ (q.log.length : Int); omega⟩
  rw [hq1 rfl]
  unfold voteP voteM
  rw [if_pos hgr, decide_eq_true hgr]
  show (_, [Msg.mk 2 p.id q.id (q.term + 1) 0 0 0 [] true]) = _
  rw [hi]; rfl
theorem countP_all {v : List Bool} (h : ∀ i : Nat, i < v.length → v[i]? = some true) : v.countP (· == true) = v.length := by
  rw [List.countP_eq_length]
  intro x hx
  obtain ⟨i, hi⟩ := List.getElem?_of_mem hx
  have := h i (List.getElem?_eq_some_iff.1 hi).1
  rw [hi] at this
  cases this; rfl
/-- While the votes come in. -/
def Vin (N b : Nat) (q0 : Peer) (is : List Nat) (p : Peer) : Prop := p = leadP q0 ∨ ∃ v : List Bool, p = { q0 with votes := v } ∧ v.length = N ∧ (∀ i, i < N → i ≠ b → i ∉ is → v[i]? = some true) ∧ v[b]? = some true ∧ (is = [] → N = 1)
theorem elect {N b : Nat} {q0 : Peer} {T : Int} (hN1 : N ≠ 1) (hb : b < N) (hi : q0.id = b) (hn : q0.nodes = N) (ht : q0.term = T) (hr : q0.role = 1) : ∀ (is : List Nat) (p : Peer), (∀ i ∈ is, i < N ∧ i ≠ b) → Vin N b q0 is p → foldH p (is.map fun i : Nat => grantM i b T) = leadP q0 := by
  intro is
  induction is with
  | nil =>
    intro p _ h
    rcases h with h | ⟨v, _, _, _, _, h⟩
    · exact h
    · exact absurd (h rfl) hN1
  | cons i is ih =>
    intro p hs h
    show foldH (handle p (grantM i b T)).1 _ = _
    obtain ⟨hiN, hib⟩ := hs i (List.mem_cons_self ..)
    refine ih _ (fun j hj => hs j (List.mem_cons_of_mem _ hj)) ?_
    rcases h with h | ⟨v, h, hv, hall, hvb, _⟩
    · left
      subst h
      unfold handle
      split
      · rfl
      · rw [show raised (leadP q0) (grantM i b T) = leadP q0 from if_neg (by show ¬ q0.term < T; omega)]
        rw [hq2 rfl]
        split
        · rfl
        · show votedP (leadP q0) (grantM i b T) = _
          rw [votedP, if_pos (by show (2 : Int) ≠ 1; decide)]
    · subst h
      have hh : (handle { q0 with votes := v } (grantM i b T)).1 = votedP { q0 with votes := v } (grantM i b T) := by
        unfold handle
        rw [if_neg (by unfold strange grantM; simp only; omega), show raised { q0 with votes := v } (grantM i b T) = { q0 with votes := v } from if_neg (by show ¬ q0.term < T; omega)]
        rw [hq2 rfl, if_neg (by rintro (h | h); (· have : T < q0.term := h; omega); (· cases h))]
      rw [hh, votedP, if_neg (by show ¬ q0.role ≠ 1; omega)]
      have hset : (addVote { q0 with votes := v } (grantM i b T).frm) = { q0 with votes := v.set i true } := by
        show Peer.mk _ _ _ _ _ _ _ (v.set (i : Int).toNat true) _ = _
        rw [Int.toNat_natCast]
      rw [hset]
      split
      · exact .inl rfl
      · rename_i hmaj
        refine .inr ⟨v.set i true, rfl, by rw [List.length_set]; exact hv, fun j hj hjb hnj => ?_, ?_, fun e => ?_⟩
        · by_cases e : i = j
          · subst e; rw [List.getElem?_set, if_pos rfl, if_pos (by omega)]
          · rw [List.getElem?_set_ne e]
            exact hall j hj hjb (fun h => by rcases List.mem_cons.1 h with h | h; (· exact e h.symm); (· exact hnj h))
        · rw [List.getElem?_set_ne hib]; exact hvb
        · subst e
          exfalso
          apply hmaj
          have hc := countP_all (v := v.set i true) (fun j hj => by
            rw [List.length_set] at hj
            by_cases e : i = j
            · subst e; rw [List.getElem?_set, if_pos rfl, if_pos (by omega)]
            · rw [List.getElem?_set_ne e]
              by_cases e2 : j = b
              · subst e2; exact hvb
              · exact hall j (by omega) e2 (fun h => by rcases List.mem_cons.1 h with h | h; (· exact e h.symm); (· cases h)))
          show q0.nodes < 2 * ((v.set i true).countP (· == true) : Int)
          rw [hc, List.length_set, hn]
          omega
/-- After the election. -/
structure Won (N b : Nat) (T : Int) (c c2 : Clu) : Prop where
  len : c2.nodes.length = N
  lead : c2.p b = wonP (c.p b)
  rest : ∀ i, i < N → i ≠ b → c2.p i = grantP (c.p i) T b
theorem won {N b : Nat} {G : Gh} {s : Nat} {c : Clu} (hN : N ≤ 5) (hc : Reach N G s c) (hb : b < N) (hterm : ∀ i, i < N → (c.p i).term ≤ (c.p b).term) (hgood : ∀ i, i < N → good (c.p i).log (c.p b).log) :
    Won N b ((c.p b).term + 1) c (deliverV (cCamp c b) c.sent.length 200) := by
  have hlen := hc.1.len
  have hnok : ∀ i, i < N → NOK N G i (c.p i) := fun i hi => hc.1.node i _ (Clu.p_get (by omega))
  have hid := (hnok b hb).id
  have hnd := (hnok b hb).nodes
  have hl2 : (cCamp c b).nodes.length = N := by show (List.set _ _ _).length = N; rw [List.length_set]; exact hlen
  have hcb : (cCamp c b).p b = (campaign (c.p b)).1 := put_get (by omega) _
  have hci : ∀ i, i ≠ b → (cCamp c b).p i = c.p i := fun i hi => put_get_ne (Ne.symm hi) _
  have hs : (cCamp c b).sent = c.sent ++ (oth N b).map fun i : Nat => campM (c.p b) i := by
    show c.sent ++ others _ _ = _
    rw [others_oth hnd hid]
  obtain ⟨r1, r2, r3⟩ := round (F := fun i => campM (c.p b) i) (g := fun i => grantM i b ((c.p b).term + 1)) (f := fun i => grantP (c.p i) ((c.p b).term + 1) b) hN hl2 hb hs
    (fun i hi hib => ⟨rfl, by
      rw [hci i hib, handle_camp (hnok i hi).id (by omega) (by rw [(hnok i hi).nodes]; omega) (by omega) (by have := hterm i hi; omega) (hgood i hi), hid]⟩)
    (fun i _ _ => ⟨rfl, .inl rfl⟩)
  refine ⟨r1, ?_, r3⟩
  rw [r2, hcb]
  by_cases h1 : N = 1
  · have ho : oth N b = [] := by
      apply List.eq_nil_iff_forall_not_mem.2
      intro i hi
      have := mem_oth.1 hi
      omega
    rw [ho]
    show (campaign (c.p b)).1 = _
    exact if_pos (by omega)
  · rw [show (campaign (c.p b)).1 = campQ (c.p b) from if_neg (by omega)]
    refine elect (q0 := campQ (c.p b)) h1 hb hid hnd rfl rfl _ _ (fun i hi => mem_oth.1 hi) (.inr ⟨_, rfl, ?_, fun i hi hib hno => absurd (mem_oth.2 ⟨hi, hib⟩) hno, ?_, fun e => ?_⟩)
    · show ((List.replicate _ _).set _ _).length = N
      rw [List.length_set, List.length_replicate]; omega
    · show ((List.replicate _ _).set _ _)[b]? = _
      rw [hid, Int.toNat_natCast, List.getElem?_set, if_pos rfl, if_pos (by rw [List.length_replicate]; omega)]
    · exfalso
      have hx : (if b = 0 then 1 else 0) ∈ oth N b := mem_oth.2 (by split <;> omega)
      rw [e] at hx; cases hx

/- 5. THE LEADER's LOG EVERYWHERE -/
def ackM (i b T n : Int) : Msg := ⟨4, i, b, T, n, 0, 0, [], true⟩
/-- The leader, when all have as many slots as it knows of. -/
structure Head (N b : Nat) (T : Int) (l : List Slot) (p : Peer) : Prop where
  id : p.id = b
  nodes : p.nodes = N
  term : p.term = T
  role : p.role = 2
  log : p.log = l
  len : p.mtch.length = N
  last : termAt l l.length = T
  pos : 0 < l.length
theorem best_le_len (p : Peer) (n : Nat) (h : p.commit ≤ (n : Int)) : best p n ≤ (n : Int) := by
  rcases best_cases p n with e | ⟨k, _, hk, e, _⟩
  · omega
  · omega
theorem counted_all {N b : Nat} {T : Int} {l : List Slot} {p : Peer} (h : Head N b T l p) (hN : 0 < N) (hc : p.commit ≤ (l.length : Int)) (hm : ∀ m ∈ p.mtch, m = (l.length : Int)) : best p p.log.length = (l.length : Int) := by
  rw [h.log]
  obtain ⟨n, hn⟩ : ∃ n, l.length = n + 1 := ⟨l.length - 1, by have := h.pos; omega⟩
  have hh : hasN p (l.length : Int) = N := by
    unfold hasN
    rw [← h.len, List.countP_eq_length]
    intro m hm'
    rw [hm m hm']; simp
  rw [hn] at hc ⊢
  unfold best
  split
  · omega
  · rw [if_pos]
    refine ⟨?_, ?_⟩
    · rw [h.log, h.term, ← hn]; exact h.last
    · rw [h.nodes, ← hn, hh]; omega
theorem propose_head {N b : Nat} {T : Int} {p : Peer} {data : List UInt8} (hid : p.id = b) (hnd : p.nodes = N) (ht : p.term = T) (hr : p.role = 2) (hm : p.mtch.length = N) : Head N b T (p.log ++ [⟨T, data⟩]) (propose p data) where
  id := hid
  nodes := hnd
  term := ht
  role := hr
  log := by show p.log ++ [⟨p.term, data⟩] = _; rw [ht]
  len := by show (List.set _ _ _).length = N; rw [List.length_set]; exact hm
  last := by
    obtain ⟨s, h1, h2⟩ := termAt_pos (l := p.log ++ [(⟨T, data⟩ : Slot)]) (i := ((p.log ++ [(⟨T, data⟩ : Slot)]).length : Int)) (by simp; omega) (by omega)
    rw [h2]
    simp at h1
    rw [← h1]
  pos := by simp
theorem merge_lead {G : Gh} {log lb : List Slot} {T t t' : Int} {data : List UInt8} (h : wf G log t) (h' : wf G lb t') (ht : t < T) (_ : t' < T) : merge log 0 (lb ++ [⟨T, data⟩]) = lb ++ [⟨T, data⟩] := by
  have hlt : ∀ (i : Nat) s, log[i]? = some s → s.term < T := fun i s hs => by have := (h i s hs).2.1; omega
  have hm := merge_spec (log := log) (LL := lb ++ [⟨T, data⟩]) (lb ++ [⟨T, data⟩]) 0 (Nat.zero_le _) (by simp) (by omega) (by rw [List.drop_zero, List.take_length]) (fun i s s' hs hs' e => by
    have hi := (List.getElem?_eq_some_iff.1 hs').1
    rw [List.length_append, List.length_singleton] at hi
    by_cases e2 : i < lb.length
    · rw [List.getElem?_append_left e2] at hs'
      rw [List.take_append_of_le_length (by omega)]
      exact h.eq h' hs hs' e
    · have : i = lb.length := by omega
      subst this
      simp at hs'
      have := hlt _ _ hs
      subst hs'
      simp only at e
      omega)
  rw [Nat.zero_add] at hm
  rcases hm with ⟨_, a, b⟩ | ⟨a, _⟩
  · exfalso
    have hlen : lb.length < (lb ++ [(⟨T, data⟩ : Slot)]).length := by simp
    have hg : (log.take (lb ++ [(⟨T, data⟩ : Slot)]).length)[lb.length]? = some ⟨T, data⟩ := by rw [a, List.take_length]; simp
    obtain ⟨hg, _⟩ := take_get hg
    have := hlt _ _ hg
    simp only at this
    omega
  · rw [a, List.take_length]
/-- A follower in the leader's term. -/
structure Foll (N : Nat) (i : Nat) (T : Int) (p : Peer) : Prop where
  id : p.id = i
  nodes : p.nodes = N
  term : p.term = T
  role : p.role = 0
theorem handle_app {N i b : Nat} {T : Int} {p : Peer} {m : Msg} (h : Foll N i T p) (hk : m.kind = 3) (hf : m.frm = b) (hto : m.to = i) (hb : b < N) (hne : i ≠ b) (ht : m.term = T) (hmi : ¬ misses p m) :
    handle p m = (storeP (followP p) m, [ackM i b T (ends m)]) := by
  unfold handle
  rw [if_neg (by unfold strange; rw [h.id, h.nodes, hk, hf, hto]; omega), show raised p m = p from if_neg (by rw [h.term, ht]; omega)]
  rw [hq3 hk, store, if_neg (by rw [h.term, h.role, ht]; omega), if_neg hmi]
  congr 1
  unfold yesM
  rw [h.id, hf, h.term]; rfl
theorem handle_ack {N i b : Nat} {T : Int} {l : List Slot} {p : Peer} (h : Head N b T l p) (hi : i < N) (hne : i ≠ b) : (handle p (ackM i b T l.length)).1 = if (l.length : Int) ≤ p.mtch.getD i 0 then p else counted { p with mtch := p.mtch.set i l.length } := by
  unfold handle
  rw [if_neg (by unfold strange ackM; simp only; rw [h.id, h.nodes]; omega), show raised p (ackM i b T l.length) = p from if_neg (by rw [h.term]; show ¬ T < T; omega)]
  rw [hq4 rfl, if_neg (by rintro (e | e); (· rw [h.term] at e; have : T < T := e; omega); (· cases e))]
  show storedP p _ = _
  unfold storedP
  have e1 : (ackM i b T l.length).index = (l.length : Int) := rfl
  have e2 : (ackM i b T l.length).frm.toNat = i := Int.toNat_natCast i
  rw [e1, e2, h.role, h.log]
  by_cases e : (l.length : Int) ≤ p.mtch.getD i 0
  · rw [if_pos (.inr (.inr e)), if_pos e]
  · rw [if_neg (by omega), if_neg e]
theorem Head.set {N b : Nat} {T : Int} {l : List Slot} {p : Peer} (h : Head N b T l p) (i : Nat) (x y : Int) : Head N b T l { p with mtch := p.mtch.set i x, commit := y } :=
  ⟨h.id, h.nodes, h.term, h.role, h.log, by show (List.set _ _ _).length = N; rw [List.length_set]; exact h.len, h.last, h.pos⟩
/-- While the answers come in. -/
theorem acks_none {N b : Nat} {T : Int} {l : List Slot} {p : Peer} (h : Head N b T l p) (hm : ∀ i, i < N → p.mtch[i]? = some (l.length : Int)) : ∀ is : List Nat, (∀ i ∈ is, i < N ∧ i ≠ b) → foldH p (is.map fun i : Nat => ackM i b T l.length) = p := by
  intro is
  induction is with
  | nil => intro _; rfl
  | cons i is ih =>
    intro hs
    obtain ⟨hi, hib⟩ := hs i (List.mem_cons_self ..)
    rw [show foldH p ((i :: is).map fun i : Nat => ackM i b T l.length) = foldH (handle p (ackM i b T l.length)).1 (is.map fun i : Nat => ackM i b T l.length) from rfl, handle_ack h hi hib, if_pos (by rw [List.getD_eq_getElem?_getD, hm i hi]; simp)]
    exact ih fun j hj => hs j (List.mem_cons_of_mem _ hj)
theorem acks {N b : Nat} {T : Int} {l : List Slot} (hN : 0 < N) : ∀ (is : List Nat) (p : Peer), is.Nodup → Head N b T l p → (∀ i ∈ is, i < N ∧ i ≠ b) → p.commit ≤ (l.length : Int) →
    (∀ i, i < N → p.mtch[i]? = some (if i ∈ is then 0 else (l.length : Int))) → (is = [] → p.commit = (l.length : Int)) →
    Head N b T l (foldH p (is.map fun i : Nat => ackM i b T l.length)) ∧ (foldH p (is.map fun i : Nat => ackM i b T l.length)).commit = (l.length : Int) ∧ ∀ i, i < N → (foldH p (is.map fun i : Nat => ackM i b T l.length)).mtch[i]? = some (l.length : Int) := by
  intro is
  induction is with
  | nil =>
    intro p _ h _ hc hm hd
    exact ⟨h, hd rfl, fun i hi => by have := hm i hi; rwa [if_neg (by simp)] at this⟩
  | cons i is ih =>
    intro p hnd h hs hc hm hd
    obtain ⟨hi, hib⟩ := hs i (List.mem_cons_self ..)
    rw [List.nodup_cons] at hnd
    have hlt : i < p.mtch.length := by rw [h.len]; exact hi
    have h0 : p.mtch[i]? = some 0 := by rw [hm i hi, if_pos (List.mem_cons_self ..)]
    have hpos := h.pos
    rw [show foldH p ((i :: is).map fun i : Nat => ackM i b T l.length) = foldH (handle p (ackM i b T l.length)).1 (is.map fun i : Nat => ackM i b T l.length) from rfl, handle_ack h hi hib, if_neg (by rw [List.getD_eq_getElem?_getD, h0]; show ¬ (l.length : Int) ≤ 0; omega)]
    have hm' : ∀ j, j < N → (p.mtch.set i (l.length : Int))[j]? = some (if j ∈ is then 0 else (l.length : Int)) := fun j hj => by
      by_cases e : i = j
      · subst e
        rw [List.getElem?_set, if_pos rfl, if_pos hlt, if_neg hnd.1]
      · rw [List.getElem?_set_ne e, hm j hj]
        by_cases e2 : j ∈ is
        · rw [if_pos e2, if_pos (List.mem_cons_of_mem _ e2)]
        · rw [if_neg e2, if_neg (fun h => by rcases List.mem_cons.1 h with h | h; (· exact e h.symm); (· exact e2 h))]
    have hq : Head N b T l { p with mtch := p.mtch.set i (l.length : Int) } := h.set i _ p.commit
    refine ih _ hnd.2 (h.set i _ _) (fun j hj => hs j (List.mem_cons_of_mem _ hj)) ?_ hm' (fun e => ?_)
    · show best _ _ ≤ _
      have := best_le_len { p with mtch := p.mtch.set i (l.length : Int) } p.log.length (by rw [h.log]; exact hc)
      rw [h.log] at this
      rw [show ({ p with mtch := p.mtch.set i (l.length : Int) } : Peer).log = l from h.log]
      exact this
    · subst e
      show best _ _ = _
      refine counted_all hq hN hc (fun m hmm => ?_)
      obtain ⟨j, hj⟩ := List.getElem?_of_mem hmm
      have hjN : j < N := by
        have := (List.getElem?_eq_some_iff.1 hj).1
        rw [show ({ p with mtch := p.mtch.set i (l.length : Int) } : Peer).mtch = p.mtch.set i (l.length : Int) from rfl, List.length_set, h.len] at this
        exact this
      have h2 := hm' j hjN
      rw [if_neg (by simp)] at h2
      rw [show ({ p with mtch := p.mtch.set i (l.length : Int) } : Peer).mtch = p.mtch.set i (l.length : Int) from rfl, h2] at hj
      exact (Option.some.inj hj).symm

/- 6. THE THREE BEATS -/
/-- All have the leader's log, and it knows. -/
structure Even (N b : Nat) (T : Int) (l : List Slot) (c : Clu) : Prop where
  len : c.nodes.length = N
  head : Head N b T l (c.p b)
  com : (c.p b).commit = (l.length : Int)
  mt : ∀ i, i < N → (c.p b).mtch[i]? = some (l.length : Int)
  foll : ∀ i, i < N → i ≠ b → Foll N i T (c.p i) ∧ (c.p i).log = l
theorem beat_c {N b : Nat} {T : Int} {l : List Slot} {c : Clu} (hl : c.nodes.length = N) (hb : b < N) (h : Head N b T l (c.p b)) : (cBeat c b).nodes.length = N ∧ (cBeat c b).p b = c.p b ∧ (∀ i, i ≠ b → (cBeat c b).p i = c.p i) ∧ (cBeat c b).sent = c.sent ++ (oth N b).map fun i : Nat => beatM (c.p b) i := by
  refine ⟨by show (List.set _ _ _).length = N; rw [List.length_set]; exact hl, put_get (by omega) _, fun i hi => put_get_ne (Ne.symm hi) _, ?_⟩
  show c.sent ++ beat _ = _
  rw [beat, if_pos h.role, others_oth h.nodes h.id]
theorem beat_first {N b : Nat} {T : Int} {l : List Slot} {c : Clu} (hN : N ≤ 5) (hl : c.nodes.length = N) (hb : b < N) (h : Head N b T l (c.p b)) (hc : (c.p b).commit ≤ (l.length : Int)) (h1 : N = 1 → (c.p b).commit = (l.length : Int))
    (hm : ∀ i, i < N → (c.p b).mtch[i]? = some (if i ∈ oth N b then 0 else (l.length : Int))) (hf : ∀ i, i < N → i ≠ b → Foll N i T (c.p i) ∧ merge (c.p i).log 0 l = l) :
    Even N b T l (deliverV (cBeat c b) c.sent.length 200) := by
  obtain ⟨b1, b2, b3, b4⟩ := beat_c hl hb h
  have hz : ∀ i, i < N → i ≠ b → (c.p b).mtch.getD i 0 = 0 := fun i hi hib => by
    rw [List.getD_eq_getElem?_getD, hm i hi, if_pos (mem_oth.2 ⟨hi, hib⟩)]; rfl
  have hends : ∀ i : Nat, i < N → i ≠ b → ends (beatM (c.p b) i) = (l.length : Int) ∧ (beatM (c.p b) i).index = 0 ∧ (beatM (c.p b) i).slots = l := fun i hi hib => by
    have e1 : (beatM (c.p b) i).index = 0 := by show (c.p b).mtch.getD (i : Int).toNat 0 = 0; rw [Int.toNat_natCast]; exact hz i hi hib
    have e2 : (beatM (c.p b) i).slots = l := by
      show (c.p b).log.drop ((c.p b).mtch.getD (i : Int).toNat 0).toNat = l
      rw [Int.toNat_natCast, hz i hi hib, h.log]; rfl
    exact ⟨by unfold ends; rw [e1, e2]; omega, e1, e2⟩
  obtain ⟨r1, r2, r3⟩ := round (F := fun i => beatM (c.p b) i) (g := fun i => ackM i b T l.length) (f := fun i => storeP (followP (c.p i)) (beatM (c.p b) i)) hN b1 hb b4
    (fun i hi hib => ⟨rfl, by
      obtain ⟨e1, e2, e3⟩ := hends i hi hib
      rw [b3 i hib, handle_app (hf i hi hib).1 rfl h.id rfl hb hib h.term (by unfold misses; omega), e1]⟩)
    (fun i _ _ => ⟨rfl, .inr rfl⟩)
  rw [b2] at r2
  obtain ⟨a1, a2, a3⟩ := acks (by omega) (oth N b) (c.p b) (oth_nodup N b) h (fun i hi => mem_oth.1 hi) hc hm (fun e => by
    refine h1 ?_
    by_cases h2 : N = 1
    · exact h2
    · exfalso
      have hx : (if b = 0 then 1 else 0) ∈ oth N b := mem_oth.2 (by split <;> omega)
      rw [e] at hx; cases hx)
  rw [← r2] at a1 a2 a3
  refine ⟨r1, a1, a2, a3, fun i hi hib => ?_⟩
  obtain ⟨e1, e2, e3⟩ := hends i hi hib
  obtain ⟨f1, f2⟩ := hf i hi hib
  rw [r3 i hi hib]
  refine ⟨⟨f1.id, f1.nodes, f1.term, rfl⟩, ?_⟩
  show merge (c.p i).log (beatM (c.p b) i).index.toNat (beatM (c.p b) i).slots = l
  rw [e2, e3]; exact f2
theorem beat_more {N b : Nat} {T : Int} {l : List Slot} {c : Clu} (hN : N ≤ 5) (hb : b < N) (h : Even N b T l c) (hc : ∀ i, i < N → (c.p i).commit ≤ (l.length : Int)) :
    Even N b T l (deliverV (cBeat c b) c.sent.length 200) ∧ ∀ i, i < N → ((deliverV (cBeat c b) c.sent.length 200).p i).commit = (l.length : Int) := by
  obtain ⟨b1, b2, b3, b4⟩ := beat_c h.len hb h.head
  have hz : ∀ i, i < N → (c.p b).mtch.getD i 0 = (l.length : Int) := fun i hi => by
    rw [List.getD_eq_getElem?_getD, h.mt i hi]; rfl
  have hpos := h.head.pos
  have hends : ∀ i : Nat, i < N → ends (beatM (c.p b) i) = (l.length : Int) ∧ (beatM (c.p b) i).index = (l.length : Int) ∧ (beatM (c.p b) i).slots = [] ∧ (beatM (c.p b) i).prev = termAt l l.length ∧ (beatM (c.p b) i).commit = (l.length : Int) := fun i hi => by
    have e1 : (beatM (c.p b) i).index = (l.length : Int) := by show (c.p b).mtch.getD (i : Int).toNat 0 = _; rw [Int.toNat_natCast]; exact hz i hi
    have e2 : (beatM (c.p b) i).slots = [] := by
      show (c.p b).log.drop ((c.p b).mtch.getD (i : Int).toNat 0).toNat = []
      rw [Int.toNat_natCast, hz i hi, h.head.log, Int.toNat_natCast, List.drop_length]
    refine ⟨by unfold ends; rw [e1, e2]; simp, e1, e2, ?_, h.com⟩
    show termAt (c.p b).log ((c.p b).mtch.getD (i : Int).toNat 0) = _
    rw [Int.toNat_natCast, hz i hi, h.head.log]
  obtain ⟨r1, r2, r3⟩ := round (F := fun i => beatM (c.p b) i) (g := fun i => ackM i b T l.length) (f := fun i => storeP (followP (c.p i)) (beatM (c.p b) i)) hN b1 hb b4
    (fun i hi hib => ⟨rfl, by
      obtain ⟨e1, e2, e3, e4, _⟩ := hends i hi
      have hlog := (h.foll i hi hib).2
      rw [b3 i hib, handle_app (h.foll i hi hib).1 rfl h.head.id rfl hb hib h.head.term (by unfold misses; rw [e2, e4, hlog]; omega), e1]⟩)
    (fun i _ _ => ⟨rfl, .inr rfl⟩)
  rw [b2, acks_none h.head h.mt (oth N b) (fun i hi => mem_oth.1 hi)] at r2
  have hst : ∀ i, i < N → i ≠ b → (storeP (followP (c.p i)) (beatM (c.p b) i)).log = l ∧ (storeP (followP (c.p i)) (beatM (c.p b) i)).commit = (l.length : Int) := fun i hi hib => by
    obtain ⟨e1, e2, e3, e4, e5⟩ := hends i hi
    have hlog := (h.foll i hi hib).2
    refine ⟨?_, ?_⟩
    · show merge (c.p i).log (beatM (c.p b) i).index.toNat (beatM (c.p b) i).slots = l
      rw [e3, hlog]; rfl
    · show max (c.p i).commit (min (beatM (c.p b) i).commit (ends (beatM (c.p b) i))) = _
      have := hc i hi
      rw [e1, e5]; omega
  refine ⟨⟨r1, by rw [r2]; exact h.head, by rw [r2]; exact h.com, by rw [r2]; exact h.mt, fun i hi hib => ?_⟩, fun i hi => ?_⟩
  · obtain ⟨f1, f2⟩ := h.foll i hi hib
    rw [r3 i hi hib]
    exact ⟨⟨f1.id, f1.nodes, f1.term, rfl⟩, (hst i hi hib).1⟩
  · by_cases e : i = b
    · subst e; rw [r2]; exact h.com
    · rw [r3 i hi e]; exact (hst i hi e).2

/- 7. IT SETTLES -/
def beats (c : Clu) (b : Nat) : Clu := deliverV (cBeat c b) c.sent.length 200
theorem settles {N b : Nat} {G : Gh} {s : Nat} {c : Clu} {data : List UInt8} (hN : N ≤ 5) (hc : Reach N G s c) (hb : b < N) (hterm : ∀ i, i < N → (c.p i).term ≤ (c.p b).term) (hgood : ∀ i, i < N → good (c.p i).log (c.p b).log) (hd : data.length ≤ 4000)
    {c1 c2 c5 : Clu} (e1 : c1 = deliverV (cCamp c b) c.sent.length 200) (e2 : c2 = cProp c1 b data) (e5 : c5 = beats (beats (beats c2 b) b) b) :
    (c1.p b).role = 2 ∧ 0 < (c5.p b).log.length ∧ ∀ i, i < N → (c5.p i).log = (c5.p b).log ∧ (c5.p i).commit = ((c5.p b).log.length : Int) := by
  have hw := won hN hc hb hterm hgood
  rw [← e1] at hw
  have hnok : ∀ i, i < N → NOK N G i (c.p i) := fun i hi => hc.1.node i _ (Clu.p_get (by rw [hc.1.len]; exact hi))
  have hid := (hnok b hb).id
  have hnd := (hnok b hb).nodes
  have hcom := (hnok b hb).com
  have hr2 : (c1.p b).role = 2 := by rw [hw.lead]; rfl
  refine ⟨hr2, ?_⟩
  -- reached
  obtain ⟨G1, _, g1⟩ := hc.camp hN hb
  obtain ⟨G2, _, g2⟩ := g1.deliver 200 c.sent.length
  rw [← e1] at g2
  obtain ⟨G3, _, g3⟩ := g2.prop hb (data := data)
  rw [← e2] at g3
  have bt : ∀ {G : Gh} {s : Nat} {x : Clu}, Reach N G s x → ∃ G' s', Reach N G' s' (beats x b) := fun h => by
    obtain ⟨G', _, h'⟩ := (h.beat hN hb).deliver 200 _
    exact ⟨G', _, h'⟩
  obtain ⟨G4, s4, g4⟩ := bt g3
  obtain ⟨G5, s5, g5⟩ := bt g4
  -- proposed
  have hc2 : c2 = c1.put b (propose (c1.p b) data, []) := by rw [e2, cProp, if_neg (by omega)]
  have p2b : c2.p b = propose (wonP (c.p b)) data := by rw [hc2, put_get (by rw [hw.len]; exact hb), hw.lead]
  have p2i : ∀ i, i < N → i ≠ b → c2.p i = grantP (c.p i) ((c.p b).term + 1) b := fun i hi hib => by rw [hc2, put_get_ne (Ne.symm hib), hw.rest i hi hib]
  have hml : (wonP (c.p b)).mtch.length = N := by
    show ((List.replicate _ _).set _ _).length = N
    rw [List.length_set, List.length_replicate]; show (c.p b).nodes.toNat = N; omega
  have hh : Head N b ((c.p b).term + 1) ((c.p b).log ++ [⟨(c.p b).term + 1, data⟩]) (c2.p b) := by rw [p2b]; exact propose_head (p := wonP (c.p b)) hid hnd rfl rfl hml
  have hlen1 : ((c.p b).log ++ [(⟨(c.p b).term + 1, data⟩ : Slot)]).length = (c.p b).log.length + 1 := by simp
  have hcm0 : (propQ (wonP (c.p b)) data).commit ≤ ((propQ (wonP (c.p b)) data).log.length : Int) := by
    show (c.p b).commit ≤ (((c.p b).log ++ [_]).length : Int)
    have := hcom.2.1
    simp; omega
  have hcm : (c2.p b).commit ≤ (((c.p b).log ++ [(⟨(c.p b).term + 1, data⟩ : Slot)]).length : Int) := by
    rw [p2b]
    have := best_le_len (propQ (wonP (c.p b)) data) (propQ (wonP (c.p b)) data).log.length hcm0
    rw [show (propQ (wonP (c.p b)) data).log.length = (c.p b).log.length + 1 from by show ((c.p b).log ++ [_]).length = _; simp] at this
    show best _ (propQ (wonP (c.p b)) data).log.length ≤ _
    rw [show (propQ (wonP (c.p b)) data).log.length = (c.p b).log.length + 1 from by show ((c.p b).log ++ [_]).length = _; simp, hlen1]
    exact this
  have hmt : ∀ i, i < N → (c2.p b).mtch[i]? = some (if i ∈ oth N b then 0 else (((c.p b).log ++ [(⟨(c.p b).term + 1, data⟩ : Slot)]).length : Int)) := fun i hi => by
    rw [p2b]
    show (((List.replicate (c.p b).nodes.toNat (0 : Int)).set (c.p b).id.toNat ((c.p b).log.length : Int)).set (c.p b).id.toNat (((c.p b).log.length : Int) + 1))[i]? = _
    rw [hid, hnd, Int.toNat_natCast, Int.toNat_natCast, List.set_set, List.getElem?_set]
    by_cases e : b = i
    · subst e
      rw [if_pos rfl, if_pos (by rw [List.length_replicate]; exact hb), if_neg (fun h => (mem_oth.1 h).2 rfl), hlen1]
      congr 1
    · rw [if_neg e, List.getElem?_replicate, if_pos hi, if_pos (mem_oth.2 ⟨hi, Ne.symm e⟩)]
  have h1 : N = 1 → (c2.p b).commit = (((c.p b).log ++ [(⟨(c.p b).term + 1, data⟩ : Slot)]).length : Int) := fun e => by
    have hq : Head N b ((c.p b).term + 1) ((c.p b).log ++ [⟨(c.p b).term + 1, data⟩]) (propQ (wonP (c.p b)) data) := by
      rw [p2b] at hh
      exact ⟨hh.id, hh.nodes, hh.term, hh.role, hh.log, hh.len, hh.last, hh.pos⟩
    rw [p2b]
    show best _ _ = _
    have hlq : ((propQ (wonP (c.p b)) data).log.length : Int) = (((c.p b).log ++ [(⟨(c.p b).term + 1, data⟩ : Slot)]).length : Int) := by rw [hq.log]
    refine counted_all hq (by omega) (by rw [← hlq]; exact hcm0) (fun m hmm => ?_)
    obtain ⟨j, hj⟩ := List.getElem?_of_mem hmm
    have hjN : j < N := by have := (List.getElem?_eq_some_iff.1 hj).1; rw [hq.len] at this; exact this
    have h2 := hmt j hjN
    rw [p2b] at h2
    rw [if_neg (fun h => by have := mem_oth.1 h; omega)] at h2
    have h3 : (propQ (wonP (c.p b)) data).mtch[j]? = (propose (wonP (c.p b)) data).mtch[j]? := rfl
    rw [h3, h2] at hj
    exact (Option.some.inj hj).symm
  have hl2 : c2.nodes.length = N := g3.1.len
  have hf : ∀ i, i < N → i ≠ b → Foll N i ((c.p b).term + 1) (c2.p i) ∧ merge (c2.p i).log 0 ((c.p b).log ++ [⟨(c.p b).term + 1, data⟩]) = (c.p b).log ++ [⟨(c.p b).term + 1, data⟩] := fun i hi hib => by
    rw [p2i i hi hib]
    refine ⟨⟨(hnok i hi).id, (hnok i hi).nodes, rfl, rfl⟩, ?_⟩
    exact merge_lead (hnok i hi).wfl (hnok b hb).wfl (by have := hterm i hi; omega) (by omega)
  have v3 : Even N b ((c.p b).term + 1) ((c.p b).log ++ [⟨(c.p b).term + 1, data⟩]) (beats c2 b) := beat_first hN hl2 hb hh hcm h1 hmt hf
  have lec : ∀ {G : Gh} {s : Nat} {x : Clu}, Reach N G s x → Even N b ((c.p b).term + 1) ((c.p b).log ++ [⟨(c.p b).term + 1, data⟩]) x → ∀ i, i < N → (x.p i).commit ≤ (((c.p b).log ++ [(⟨(c.p b).term + 1, data⟩ : Slot)]).length : Int) := fun {G s x} hx hv i hi => by
    by_cases e : i = b
    · subst e; rw [hv.com]; exact Int.le_refl _
    · have := (hx.1.node i _ (Clu.p_get (by rw [hx.1.len]; exact hi))).com.2.1
      rw [(hv.foll i hi e).2] at this
      exact this
  have v4 : Even N b ((c.p b).term + 1) ((c.p b).log ++ [⟨(c.p b).term + 1, data⟩]) (beats (beats c2 b) b) := (beat_more hN hb v3 (lec g4 v3)).1
  obtain ⟨v5, k5⟩ := beat_more hN hb v4 (lec g5 v4)
  rw [show deliverV (cBeat (beats (beats c2 b) b) b) (beats (beats c2 b) b).sent.length 200 = c5 from e5.symm] at v5 k5
  refine ⟨by rw [v5.head.log]; simp, fun i hi => ⟨?_, ?_⟩⟩
  · by_cases e : i = b
    · rw [e]
    · rw [(v5.foll i hi e).2, v5.head.log]
  · rw [k5 i hi, v5.head.log]
end Go.Rp
