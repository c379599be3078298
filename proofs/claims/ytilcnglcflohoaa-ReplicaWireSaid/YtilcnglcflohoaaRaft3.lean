/- Messages that are handled; clusters; what is said of all states that a cluster was in. -/
import Derived.Test.YtilcnglcflohoaaRaft2
namespace Go.Rp

section
variable {N : Nat} {G : Gh} {j : Int} {p : Peer}
theorem termAt_nonneg {l : List Slot} {T : Int} (h : wf G l T) {i : Int} (h1 : i ≤ l.length) (h0 : 0 ≤ i) : 0 ≤ termAt l i := by
  by_cases e : i = 0
  · rw [e, termAt_zero]; omega
  · obtain ⟨s, a, b⟩ := termAt_pos (l := l) (i := i) (by omega) h1
    have := (h _ s a).1
    omega
theorem mem_others {p : Peer} {f : Int → Msg} {x : Msg} (h : x ∈ others p f) : ∃ i : Nat, (i : Int) < p.nodes ∧ (i : Int) ≠ p.id ∧ x = f i := by
  unfold others at h
  obtain ⟨i, hi, rfl⟩ := List.mem_map.1 h
  obtain ⟨a, b⟩ := List.mem_filter.1 hi
  have := List.mem_range.1 a
  exact ⟨i, by omega, by simpa using b, rfl⟩
theorem campaign_ok (hG : GOK N G) (h : NOK N G j p) : ∃ G', Ext j G G' ∧ GOK N G' ∧ NOK N G' j (campaign p).1 ∧ ∀ x ∈ (campaign p).2, MOK N G' x := by
  obtain ⟨G1, hx, hg, hn, hv, hc⟩ := camp_ok hG h
  have hid := h.id
  have hnodes := h.nodes
  have hrng := h.rng
  have hterm := h.term
  have hmsg : ∀ x ∈ others p (campM p), MOK N G1 x := fun x hx' => by
    obtain ⟨i, a, b, rfl⟩ := mem_others hx'
    have hl := termAt_nonneg h.wfl (i := p.log.length) (Int.le_refl _) (by omega)
    exact {
      kind := .inl rfl
      frm := by show 0 ≤ p.id ∧ p.id < N; omega
      to := by show 0 ≤ (i : Int) ∧ (i : Int) < N; omega
      ne := by show p.id ≠ i; omega
      term := by show 0 ≤ p.term + 1; omega
      nat := ⟨by show 0 ≤ (p.log.length : Int); omega, hl, Int.le_refl _⟩
      vote := fun _ => by
        show G1.vf p.id (p.term + 1) = some p.id ∧ (p.log.length : Int) = (G1.cl p.id (p.term + 1)).length ∧ lastT p.log = lastT (G1.cl p.id (p.term + 1))
        rw [hid, hc]; exact ⟨hv, rfl, rfl⟩
      voted := fun e => by cases e
      app := fun e => by cases e
      stored := fun e => by cases e }
  by_cases e : p.nodes = 1
  · obtain ⟨G2, hx2, hg2, hn2⟩ := lead_ok hg hn rfl (by
      show p.nodes < 2 * (((List.replicate p.nodes.toNat false).set p.id.toNat true).countP (· == true) : Int)
      have : p.id.toNat = 0 := by omega
      rw [e, this]; decide)
    refine ⟨G2, hx.trans hx2, hg2, ?_, fun x hx' => (hmsg x hx').mono hx2.toLe⟩
    show NOK N G2 j (if p.nodes = 1 then leadP (campQ p) else campQ p)
    rw [if_pos e]; exact hn2
  · refine ⟨G1, hx, hg, ?_, hmsg⟩
    show NOK N G1 j (if p.nodes = 1 then leadP (campQ p) else campQ p)
    rw [if_neg e]; exact hn
theorem propose_ok (hG : GOK N G) (h : NOK N G j p) (hr : p.role = 2) (data : List UInt8) : ∃ G', Ext j G G' ∧ GOK N G' ∧ NOK N G' j (propose p data) := by
  obtain ⟨G1, a, b, c⟩ := prop_ok hG h hr data
  exact ⟨G1, a, b, counted_ok c hr⟩
theorem mtch_le (hG : GOK N G) (h : NOK N G j p) (hr : p.role = 2) {i : Nat} (hi : i < N) : ∃ m, p.mtch[i]? = some m ∧ p.mtch.getD i 0 = m ∧ 0 ≤ m ∧ m ≤ p.log.length ∧ m ≤ (G.ack i p.term : Int) := by
  obtain ⟨l1, l2, l3, l4⟩ := h.l1 hr
  have hlt : i < p.mtch.length := by omega
  have hg := List.getElem?_eq_getElem hlt
  obtain ⟨a, b⟩ := h.l2 hr i _ hg
  refine ⟨p.mtch[i], hg, by rw [List.getD_eq_getElem?_getD, hg]; rfl, a, ?_, b⟩
  rcases Nat.eq_zero_or_pos (G.ack i p.term) with e | e
  · omega
  · have := (hG.ack e).2
    rw [l4] at this
    omega
theorem beat_ok (hG : GOK N G) (h : NOK N G j p) : ∀ x ∈ beat p, MOK N G x := fun x hx => by
  unfold beat at hx
  split at hx
  · rename_i hr
    obtain ⟨i, a, b, rfl⟩ := mem_others hx
    have hid := h.id
    have hnodes := h.nodes
    have hrng := h.rng
    obtain ⟨m, hm, hd, h0, h1, h2⟩ := mtch_le hG h hr (i := i) (by omega)
    obtain ⟨l1, l2, l3, l4⟩ := h.l1 hr
    have hcom := h.com
    have hd' : p.mtch.getD ((i : Int).toNat) 0 = m := by rw [Int.toNat_natCast]; exact hd
    exact {
      kind := .inr (.inr (.inl rfl))
      frm := by show 0 ≤ p.id ∧ p.id < N; omega
      to := by show 0 ≤ (i : Int) ∧ (i : Int) < N; omega
      ne := by show p.id ≠ i; omega
      term := h.term
      nat := by
        show 0 ≤ p.mtch.getD ((i : Int).toNat) 0 ∧ 0 ≤ termAt p.log (p.mtch.getD ((i : Int).toNat) 0) ∧ 0 ≤ p.commit
        rw [hd']
        exact ⟨h0, termAt_nonneg h.wfl h1 h0, hcom.1⟩
      vote := fun e => by cases e
      voted := fun e => by cases e
      app := fun _ => by
        show G.el p.term ∧ G.who p.term = p.id ∧ (p.mtch.getD ((i : Int).toNat) 0).toNat + (p.log.drop (p.mtch.getD ((i : Int).toNat) 0).toNat).length ≤ (G.LL p.term).length ∧ ((G.LL p.term).drop (p.mtch.getD ((i : Int).toNat) 0).toNat).take (p.log.drop (p.mtch.getD ((i : Int).toNat) 0).toNat).length = p.log.drop (p.mtch.getD ((i : Int).toNat) 0).toNat ∧ termAt p.log (p.mtch.getD ((i : Int).toNat) 0) = termAt (G.LL p.term) (p.mtch.getD ((i : Int).toNat) 0) ∧ ComOK N G (G.LL p.term) p.commit p.term
        rw [hd', l4]
        exact ⟨l2, l3.trans hid.symm, by rw [List.length_drop]; omega, List.take_length, rfl, hcom⟩
      stored := fun e => by cases e }
  · cases hx

theorem handleQ_ok (hG : GOK N G) (h : NOK N G j p) {m : Msg} (hm : MOK N G m) (hto : m.to = j) (hT : m.term ≤ p.term) : ∃ G', Ext j G G' ∧ GOK N G' ∧ NOK N G' j (handleQ p m).1 ∧ ∀ x ∈ (handleQ p m).2, MOK N G' x := by
  have hid := h.id
  have hnodes := h.nodes
  have hrng := h.rng
  have hfrm := hm.frm
  have hne := hm.ne
  have hterm := h.term
  have hnat := hm.nat
  unfold handleQ
  by_cases k1 : m.kind = 1
  · rw [if_pos k1]
    obtain ⟨v1, v2, v3⟩ := hm.vote k1
    by_cases hg : grants p m
    · obtain ⟨g1, g2, g3⟩ := hg
      rw [g1] at v1 v2 v3
      have hgood : good p.log (G.cl m.frm p.term) := by
        unfold recent at g2
        rw [v3, v2] at g2
        rcases g2 with g2 | ⟨g2, g4⟩
        · exact .inl g2
        · exact .inr ⟨g2.symm, by omega⟩
      obtain ⟨G', a, b, c, d⟩ := grant_ok hG h hfrm (by omega) v1 hgood g3
      refine ⟨G', a, b, ?_, fun x hx => ?_⟩
      · show NOK N G' j (voteP p m)
        rw [voteP, if_pos ⟨g1, g2, g3⟩]; exact c
      · have hx : x = voteM p m := by simpa using hx
        subst hx
        exact {
          kind := .inr (.inl rfl)
          frm := by show 0 ≤ p.id ∧ p.id < N; omega
          to := hfrm
          ne := by show p.id ≠ m.frm; omega
          term := hterm
          nat := ⟨Int.le_refl _, Int.le_refl _, Int.le_refl _⟩
          vote := fun e => by cases e
          voted := fun _ _ => by show G'.vf p.id p.term = some m.frm; rw [hid]; exact d
          app := fun e => by cases e
          stored := fun e => by cases e }
    · refine ⟨G, Ext.refl _ _, hG, ?_, fun x hx => ?_⟩
      · show NOK N G j (voteP p m)
        rw [voteP, if_neg hg]; exact h
      · have hx : x = voteM p m := by simpa using hx
        subst hx
        exact {
          kind := .inr (.inl rfl)
          frm := by show 0 ≤ p.id ∧ p.id < N; omega
          to := hfrm
          ne := by show p.id ≠ m.frm; omega
          term := hterm
          nat := ⟨Int.le_refl _, Int.le_refl _, Int.le_refl _⟩
          vote := fun e => by cases e
          voted := fun _ y => by
            have y' : decide (grants p m) = true := y
            exact absurd (of_decide_eq_true y') hg
          app := fun e => by cases e
          stored := fun e => by cases e }
  rw [if_neg k1]
  by_cases k2 : m.kind = 2
  · rw [if_pos k2]
    by_cases hl : m.term < p.term ∨ m.yes = false
    · rw [if_pos hl]; exact ⟨G, Ext.refl _ _, hG, h, fun x hx => by cases hx⟩
    · rw [if_neg hl]
      have hmt : m.term = p.term := by omega
      have hy : m.yes = true := by cases e : m.yes with
        | true => rfl
        | false => exact absurd (.inr e) hl
      have hf := hm.voted k2 hy
      rw [hto, hmt] at hf
      unfold votedP
      by_cases hr : p.role ≠ 1
      · simp only [if_pos hr]; exact ⟨G, Ext.refl _ _, hG, h, fun x hx => by cases hx⟩
      · simp only [if_neg hr]
        have hr1 : p.role = 1 := by omega
        have ha := addVote_ok h hfrm.1 hf
        by_cases hc : p.nodes < 2 * ((addVote p m.frm).votes.countP (· == true) : Int)
        · simp only [if_pos hc]
          obtain ⟨G', a, b, c⟩ := lead_ok hG ha hr1 hc
          exact ⟨G', a, b, c, fun x hx => by cases hx⟩
        · simp only [if_neg hc]
          exact ⟨G, Ext.refl _ _, hG, ha, fun x hx => by cases hx⟩
  rw [if_neg k2]
  have hno : MOK N G (noM p m) := {
    kind := .inr (.inr (.inr rfl))
    frm := by show 0 ≤ p.id ∧ p.id < N; omega
    to := hfrm
    ne := by show p.id ≠ m.frm; omega
    term := hterm
    nat := ⟨Int.le_refl _, Int.le_refl _, Int.le_refl _⟩
    vote := fun e => by cases e
    voted := fun e => by cases e
    app := fun e => by cases e
    stored := fun _ e => by cases e }
  by_cases k3 : m.kind = 3
  · rw [if_pos k3]
    unfold store
    by_cases hc : m.term < p.term ∨ p.role = 2
    · rw [if_pos hc]; exact ⟨G, Ext.refl _ _, hG, h, fun x hx => by
          have hx : x = noM p m := by simpa using hx
          rw [hx]; exact hno⟩
    · rw [if_neg hc]
      have hmt : m.term = p.term := by omega
      have hf := follow_ok h (by omega)
      by_cases hmi : misses p m
      · rw [if_pos hmi]; exact ⟨G, Ext.refl _ _, hG, hf, fun x hx => by
          have hx : x = noM p m := by simpa using hx
          rw [hx]; exact hno⟩
      · rw [if_neg hmi]
        obtain ⟨G', a, b, c, d, e, f⟩ := store_ok hG hf rfl hm k3 hmt hmi hto
        refine ⟨G', a, b, c, fun x hx => ?_⟩
        have hx : x = yesM p m := by simpa using hx
        subst hx
        exact {
          kind := .inr (.inr (.inr rfl))
          frm := by show 0 ≤ p.id ∧ p.id < N; omega
          to := hfrm
          ne := by show p.id ≠ m.frm; omega
          term := hterm
          nat := ⟨by show 0 ≤ ends m; unfold ends; omega, Int.le_refl _, Int.le_refl _⟩
          vote := fun e => by cases e
          voted := fun e => by cases e
          app := fun e => by cases e
          stored := fun _ _ => by
            show G'.el p.term ∧ G'.who p.term = m.frm ∧ ends m ≤ (G'.ack p.id p.term : Int)
            rw [hid]; exact ⟨d, e, f⟩ }
  · rw [if_neg k3]
    have k4 : m.kind = 4 := by have := hm.kind; omega
    by_cases hl : m.term < p.term ∨ m.yes = false
    · rw [if_pos hl]; exact ⟨G, Ext.refl _ _, hG, h, fun x hx => by cases hx⟩
    · rw [if_neg hl]
      have hmt : m.term = p.term := by omega
      have hy : m.yes = true := by cases e : m.yes with
        | true => rfl
        | false => exact absurd (.inr e) hl
      obtain ⟨s1, s2, s3⟩ := hm.stored k4 hy
      rw [hmt] at s3
      unfold storedP
      by_cases hc : p.role ≠ 2 ∨ (p.log.length : Int) < m.index ∨ m.index ≤ p.mtch.getD m.frm.toNat 0
      · simp only [if_pos hc]; exact ⟨G, Ext.refl _ _, hG, h, fun x hx => by cases hx⟩
      · simp only [if_neg hc]
        have hr : p.role = 2 := by omega
        exact ⟨G, Ext.refl _ _, hG, counted_ok (match_ok h hfrm.1 hnat.1 s3) hr, fun x hx => by cases hx⟩
theorem handle_ok (hG : GOK N G) (h : NOK N G j p) {m : Msg} (hm : MOK N G m) (hto : m.to = j) : ∃ G', Ext j G G' ∧ GOK N G' ∧ NOK N G' j (handle p m).1 ∧ ∀ x ∈ (handle p m).2, MOK N G' x := by
  unfold handle
  by_cases hs : strange p m
  · rw [if_pos hs]; exact ⟨G, Ext.refl _ _, hG, h, fun x hx => by cases hx⟩
  · rw [if_neg hs]
    unfold raised
    by_cases hT : p.term < m.term
    · rw [if_pos hT]; exact handleQ_ok hG (down_ok h hT) hm hto (Int.le_refl _)
    · rw [if_neg hT]; exact handleQ_ok hG h hm hto (by omega)
end

/- CLUSTERS -/
structure Clu where
  nodes : List Peer
  sent : List Msg
structure CInv (N : Nat) (G : Gh) (c : Clu) : Prop where
  len : c.nodes.length = N
  g : GOK N G
  node : ∀ (i : Nat) p, c.nodes[i]? = some p → NOK N G i p
  msg : ∀ m ∈ c.sent, MOK N G m
theorem CInv.put {N : Nat} {G G' : Gh} {c : Clu} (h : CInv N G c) {i : Nat} {p' : Peer} {l : List Msg} (hx : Ext i G G') (hg : GOK N G') (hp : NOK N G' i p') (hl : ∀ x ∈ l, MOK N G' x) : CInv N G' ⟨c.nodes.set i p', c.sent ++ l⟩ where
  len := by rw [List.length_set]; exact h.len
  g := hg
  node := fun k q hq => by
    rcases set_get hq with ⟨rfl, rfl⟩ | ⟨e, x⟩
    · exact hp
    · exact (h.node k q x).other h.g hx (by omega)
  msg := fun m hm => by
    rcases List.mem_append.1 hm with hm | hm
    · exact (h.msg m hm).mono hx.toLe
    · exact hl m hm
/-- What lasts of a state that the cluster was in. -/
structure POK (N : Nat) (G : Gh) (i : Int) (p : Peer) : Prop where
  com : ComOK N G p.log p.commit p.term
  wfl : wf G p.log p.term
  lead : p.role = 2 → G.el p.term ∧ G.who p.term = i ∧ G.CL p.term <+: p.log
def Past (N : Nat) (G : Gh) (c : Clu) : Prop := ∀ (i : Nat) p, c.nodes[i]? = some p → POK N G i p
theorem NOK.past {N : Nat} {G : Gh} {i : Int} {p : Peer} (hG : GOK N G) (h : NOK N G i p) : POK N G i p :=
  ⟨h.com, h.wfl, fun e => by obtain ⟨_, b, c, d⟩ := h.l1 e; exact ⟨b, c, by rw [← d]; exact hG.pre b⟩⟩
theorem CInv.past {N : Nat} {G : Gh} {c : Clu} (h : CInv N G c) : Past N G c := fun i p hp => (h.node i p hp).past h.g
theorem POK.mono {N : Nat} {G G' : Gh} {i : Int} {p : Peer} (hG : GOK N G) (hl : Le G G') (h : POK N G i p) : POK N G' i p :=
  ⟨h.com.mono hl (Int.le_refl _), h.wfl.mono hl (Int.le_refl _), fun e => by
    obtain ⟨a, b, c⟩ := h.lead e
    exact ⟨(hl.el a).1, (hl.el a).2.trans b, by rw [hl.CL hG a]; exact c⟩⟩
theorem Past.mono {N : Nat} {G G' : Gh} {c : Clu} (hG : GOK N G) (hl : Le G G') (h : Past N G c) : Past N G' c := fun i p hp => (h i p hp).mono hG hl

section
variable {N : Nat} {G : Gh} {i k : Int} {p q : Peer}
theorem one_leader (h : POK N G i p) (h' : POK N G k q) (hp : p.role = 2) (hq : q.role = 2) (e : p.term = q.term) : i = k := by
  have a := (h.lead hp).2.1
  have b := (h'.lead hq).2.1
  rw [e] at a; omega
theorem agree (hG : GOK N G) (h : POK N G i p) (h' : POK N G k q) : p.log.take p.commit.toNat <+: q.log.take q.commit.toNat ∨ q.log.take q.commit.toNat <+: p.log.take p.commit.toNat := by
  obtain ⟨_, _, a⟩ := h.com
  obtain ⟨_, _, b⟩ := h'.com
  rcases a with a | ⟨t, x, _, c, _, d⟩
  · rw [a]; exact .inl (List.nil_prefix)
  rcases b with b | ⟨t', x', _, c', _, d'⟩
  · rw [b]; exact .inr (List.nil_prefix)
  obtain ⟨T, _, e, f⟩ := c.two hG c'
  have g := d.trans e
  have g' := d'.trans f
  rcases Nat.le_total (p.log.take p.commit.toNat).length (q.log.take q.commit.toNat).length with z | z
  · exact .inl (pre_of_le g g' z)
  · exact .inr (pre_of_le g' g z)
theorem keeps (hG : GOK N G) (h : POK N G i p) (h' : POK N G k q) (hp : p.role = 2) (hT : q.term < p.term) : q.log.take q.commit.toNat <+: p.log := by
  obtain ⟨a, _, b⟩ := h.lead hp
  obtain ⟨_, _, c⟩ := h'.com
  rcases c with c | ⟨t, x, d, e, _, f⟩
  · rw [c]; exact List.nil_prefix
  · exact f.trans ((e.leader hG a (by omega)).trans b)
theorem sorted (hG : GOK N G) (h : POK N G i p) {n : Nat} {s s' : Slot} (hs : p.log[n]? = some s) (hs' : p.log[n + 1]? = some s') : s.term ≤ s'.term := by
  obtain ⟨_, _, c, d⟩ := h.wfl _ _ hs'
  exact ((hG.wfl c) n s (pre_get d (get_take hs (by omega)))).2.1
theorem same_upto (h : POK N G i p) (h' : POK N G k q) {n : Nat} {s s' : Slot} (hs : p.log[n]? = some s) (hs' : q.log[n]? = some s') (e : s.term = s'.term) : p.log.take (n + 1) = q.log.take (n + 1) := h.wfl.eq h'.wfl hs hs' e
end

/- THE BEGINNING -/
def newP (i N : Int) : Peer := ⟨i, N, 0, -1, 0, 0, [], [], []⟩
def gh0 : Gh := ⟨fun _ => False, fun _ => 0, fun _ => [], fun _ _ => [], fun _ _ => none, fun _ _ => none, fun _ _ => 0⟩
theorem gh0_ok (N : Nat) : GOK N gh0 where
  el1 := fun h => h.elim
  pre := fun h => h.elim
  lt := fun h => h.elim
  own := fun h => h.elim
  wfl := fun h => h.elim
  self := fun h => h.elim
  vote := fun h => h.elim
  ack := fun {v t} h => absurd h (by show ¬ 1 ≤ 0; omega)
  vfk := fun h => by cases h
  cand := fun h => by cases h
  vlv := fun h => by cases h
  vlk := fun h => by cases h
theorem new_ok {N : Nat} {j : Int} (h0 : 0 ≤ j) (h1 : j < N) : NOK N gh0 j (newP j N) where
  id := rfl
  nodes := rfl
  rng := ⟨h0, h1⟩
  term := Int.le_refl _
  voted := by show -1 ≤ (-1 : Int) ∧ (-1 : Int) < N; omega
  vot := fun e => absurd rfl e
  novot := fun _ => rfl
  fut := fun _ _ => rfl
  wfl := fun k s hk => by have hk' : ([] : List Slot)[k]? = some s := hk; simp at hk'
  ackR := fun t h => absurd h (by show ¬ 1 ≤ 0; omega)
  keep := fun t k h1 hk => absurd hk (by show ¬ k ≤ 0; omega)
  com := ⟨Int.le_refl _, by show (0 : Int) ≤ (([] : List Slot).length : Int); simp, .inl rfl⟩
  role := .inl rfl
  nv := fun _ => rfl
  nm := fun _ => rfl
  c1 := fun e => by cases e
  c2 := fun e => by cases e
  c3 := fun e => by cases e
  l1 := fun e => by cases e
  l2 := fun e => by cases e
end Go.Rp
