/- The protocol of package replica, in plain Lean: its steps, and what holds of all clusters that come up. -/
namespace Go.Rp

structure Slot where
  term : Int
  data : List UInt8
deriving DecidableEq, Inhabited
structure Peer where
  id : Int
  nodes : Int
  term : Int
  voted : Int
  role : Int
  commit : Int
  log : List Slot
  votes : List Bool
  mtch : List Int
deriving DecidableEq, Inhabited
structure Msg where
  kind : Int
  frm : Int
  to : Int
  term : Int
  index : Int
  prev : Int
  commit : Int
  slots : List Slot
  yes : Bool
deriving DecidableEq, Inhabited

def termAt (l : List Slot) (i : Int) : Int := if i = 0 then 0 else (l.getD (i.toNat - 1) ⟨0, []⟩).term
def lastT (l : List Slot) : Int := termAt l l.length

/- 1. WHAT THE PROOF KEEPS BESIDE THE CLUSTER -/

/-- el: a term has a leader. who: which node. LL: its log. cl: a candidate's log. vf: for whom a node voted. vl: its log then, where the term had no leader yet. ack: how many slots of a term's leader a node took. -/
structure Gh where
  el : Int → Prop
  who : Int → Int
  LL : Int → List Slot
  cl : Int → Int → List Slot
  vf : Int → Int → Option Int
  vl : Int → Int → Option (List Slot)
  ack : Int → Int → Nat
def Gh.CL (G : Gh) (T : Int) : List Slot := G.cl (G.who T) T

open Classical in
noncomputable def cnt (N : Nat) (p : Int → Prop) : Nat := (List.range N).countP fun i : Nat => decide (p i)
def maj (N : Nat) (p : Int → Prop) : Prop := N < 2 * cnt N p

theorem countP_two {α : Type} (p q : α → Bool) : ∀ l : List α, l.countP p + l.countP q ≤ l.length + l.countP (fun x => p x && q x)
  | [] => by simp
  | x :: l => by
    have ih := countP_two p q l
    simp only [List.countP_cons, List.length_cons]
    cases p x <;> cases q x <;> simp <;> omega
theorem maj_two {N : Nat} {p q : Int → Prop} (h : maj N p) (h' : maj N q) : ∃ v : Int, 0 ≤ v ∧ v < N ∧ p v ∧ q v := by
  unfold maj cnt at h h'
  have h2 := countP_two (fun i : Nat => @decide (p i) (Classical.propDecidable _)) (fun i : Nat => @decide (q i) (Classical.propDecidable _)) (List.range N)
  rw [List.length_range] at h2
  have h3 : 0 < (List.range N).countP (fun i : Nat => @decide (p i) (Classical.propDecidable _) && @decide (q i) (Classical.propDecidable _)) := by omega
  obtain ⟨v, hv, hp⟩ := List.countP_pos_iff.1 h3
  simp only [Bool.and_eq_true, decide_eq_true_eq] at hp
  exact ⟨v, by omega, by have := List.mem_range.1 hv; omega, hp⟩
theorem maj_mono {N : Nat} {p q : Int → Prop} (h : maj N p) (hpq : ∀ v : Int, 0 ≤ v → v < N → p v → q v) : maj N q := by
  unfold maj cnt at *
  have : (List.range N).countP (fun i : Nat => @decide (p i) (Classical.propDecidable _)) ≤ (List.range N).countP (fun i : Nat => @decide (q i) (Classical.propDecidable _)) :=
    List.countP_mono_left fun x hx hp => by
      simp only [decide_eq_true_eq] at hp ⊢
      exact hpq x (by omega) (by have := List.mem_range.1 hx; omega) hp
  omega

/-- Each slot stands in the log of its term's leader, with all before it. -/
def wf (G : Gh) (l : List Slot) (T : Int) : Prop := ∀ (k : Nat) s, l[k]? = some s → 1 ≤ s.term ∧ s.term ≤ T ∧ G.el s.term ∧ l.take (k + 1) <+: G.LL s.term
/-- The second log is at least as recent. -/
def good (l L : List Slot) : Prop := lastT l < lastT L ∨ (lastT l = lastT L ∧ l.length ≤ L.length)
def Cmt (N : Nat) (G : Gh) (t : Int) (k : Nat) : Prop := G.el t ∧ 1 ≤ k ∧ k ≤ (G.LL t).length ∧ (∃ s, (G.LL t)[k - 1]? = some s ∧ s.term = t) ∧ maj N (fun i => k ≤ G.ack i t)
def ComOK (N : Nat) (G : Gh) (l : List Slot) (c T : Int) : Prop := 0 ≤ c ∧ c ≤ l.length ∧ (c = 0 ∨ ∃ t k, t ≤ T ∧ Cmt N G t k ∧ c ≤ (k : Int) ∧ l.take c.toNat <+: (G.LL t).take k)

structure GOK (N : Nat) (G : Gh) : Prop where
  el1 : ∀ {T}, G.el T → 1 ≤ T ∧ 0 ≤ G.who T ∧ G.who T < N
  pre : ∀ {T}, G.el T → G.CL T <+: G.LL T
  lt : ∀ {T}, G.el T → ∀ s ∈ G.CL T, s.term < T
  own : ∀ {T}, G.el T → ∀ (k : Nat) s, (G.CL T).length ≤ k → (G.LL T)[k]? = some s → s.term = T
  wfl : ∀ {T}, G.el T → wf G (G.LL T) T
  self : ∀ {T}, G.el T → G.vf (G.who T) T = some (G.who T)
  vote : ∀ {T}, G.el T → maj N (fun v => G.vf v T = some (G.who T) ∧ ∃ l, G.vl v T = some l ∧ good l (G.CL T) ∧ wf G l T)
  ack : ∀ {v t}, 1 ≤ G.ack v t → G.el t ∧ G.ack v t ≤ (G.LL t).length
  vfk : ∀ {v T c}, G.vf v T = some c → G.el T ∨ ∃ l, G.vl v T = some l ∧ good l (G.cl c T) ∧ wf G l T
  cand : ∀ {v T c}, G.vf v T = some c → G.vf c T = some c
  vlv : ∀ {v T l}, G.vl v T = some l → G.vf v T ≠ none
  vlk : ∀ {v T l}, G.vl v T = some l → ∀ t (k : Nat), 1 ≤ k → k ≤ G.ack v t → t < T → (G.LL t).take k <+: l ∨ ∃ u, t < u ∧ u < T ∧ G.el u ∧ ¬ (G.LL t).take k <+: G.CL u

structure NOK (N : Nat) (G : Gh) (j : Int) (p : Peer) : Prop where
  id : p.id = j
  nodes : p.nodes = N
  rng : 0 ≤ j ∧ j < N
  term : 0 ≤ p.term
  voted : -1 ≤ p.voted ∧ p.voted < N
  vot : p.voted ≠ -1 → G.vf j p.term = some p.voted
  novot : p.voted = -1 → G.vf j p.term = none
  fut : ∀ t, p.term < t → G.vf j t = none
  wfl : wf G p.log p.term
  ackR : ∀ t, 1 ≤ G.ack j t → t ≤ p.term
  keep : ∀ t (k : Nat), 1 ≤ k → k ≤ G.ack j t → (G.LL t).take k <+: p.log ∨ ∃ u, t < u ∧ u ≤ p.term ∧ G.el u ∧ ¬ (G.LL t).take k <+: G.CL u
  com : ComOK N G p.log p.commit p.term
  role : p.role = 0 ∨ p.role = 1 ∨ p.role = 2
  nv : p.role ≠ 1 → p.votes = []
  nm : p.role ≠ 2 → p.mtch = []
  c1 : p.role = 1 → p.votes.length = N ∧ p.voted = j ∧ G.cl j p.term = p.log ∧ ¬ (G.el p.term ∧ G.who p.term = j) ∧ ∀ s ∈ p.log, s.term < p.term
  c2 : p.role = 1 → ∀ v : Nat, p.votes[v]? = some true → G.vf v p.term = some j
  c3 : p.role = 1 → 1 ≤ p.term
  l1 : p.role = 2 → p.mtch.length = N ∧ G.el p.term ∧ G.who p.term = j ∧ G.LL p.term = p.log
  l2 : p.role = 2 → ∀ (v : Nat) m, p.mtch[v]? = some m → 0 ≤ m ∧ m ≤ (G.ack v p.term : Int)

/-- What was sent. -/
structure MOK (N : Nat) (G : Gh) (m : Msg) : Prop where
  kind : m.kind = 1 ∨ m.kind = 2 ∨ m.kind = 3 ∨ m.kind = 4
  frm : 0 ≤ m.frm ∧ m.frm < N
  to : 0 ≤ m.to ∧ m.to < N
  ne : m.frm ≠ m.to
  term : 0 ≤ m.term
  nat : 0 ≤ m.index ∧ 0 ≤ m.prev ∧ 0 ≤ m.commit
  vote : m.kind = 1 → G.vf m.frm m.term = some m.frm ∧ m.index = (G.cl m.frm m.term).length ∧ m.prev = lastT (G.cl m.frm m.term)
  voted : m.kind = 2 → m.yes = true → G.vf m.frm m.term = some m.to
  app : m.kind = 3 → G.el m.term ∧ G.who m.term = m.frm ∧ m.index.toNat + m.slots.length ≤ (G.LL m.term).length ∧ ((G.LL m.term).drop m.index.toNat).take m.slots.length = m.slots ∧ m.prev = termAt (G.LL m.term) m.index ∧ ComOK N G (G.LL m.term) m.commit m.term
  stored : m.kind = 4 → m.yes = true → G.el m.term ∧ G.who m.term = m.to ∧ m.index ≤ (G.ack m.frm m.term : Int)

/- 2. LISTS -/
theorem pre_take {a b : List Slot} {k : Nat} (h : a <+: b) (hk : k ≤ a.length) : b.take k = a.take k := by
  obtain ⟨c, rfl⟩ := h
  rw [List.take_append_of_le_length hk]
theorem pre_of_le {a b c : List Slot} (h : a <+: c) (h' : b <+: c) (hl : a.length ≤ b.length) : a <+: b := List.prefix_of_prefix_length_le h h' hl
theorem pre_get {a b : List Slot} {k : Nat} {s : Slot} (h : a <+: b) (hk : a[k]? = some s) : b[k]? = some s := by
  obtain ⟨c, rfl⟩ := h
  rw [List.getElem?_append_left (List.getElem?_eq_some_iff.1 hk).1, hk]
theorem take_pre (l : List Slot) (k : Nat) : l.take k <+: l := List.take_prefix k l
theorem take_take_pre {l : List Slot} {a b : Nat} (h : a ≤ b) : l.take a <+: l.take b := by
  rw [show l.take a = (l.take b).take a from by rw [List.take_take, Nat.min_eq_left h]]
  exact List.take_prefix _ _
theorem get_take {l : List Slot} {k n : Nat} {s : Slot} (h : l[k]? = some s) (hk : k < n) : (l.take n)[k]? = some s := by
  rw [List.getElem?_take, if_pos hk, h]
theorem take_get {l : List Slot} {k n : Nat} {s : Slot} (h : (l.take n)[k]? = some s) : l[k]? = some s ∧ k < n := by
  rw [List.getElem?_take] at h
  split at h
  · exact ⟨h, by assumption⟩
  · cases h
theorem termAt_pos {l : List Slot} {i : Int} (h0 : 1 ≤ i) (h1 : i ≤ l.length) : ∃ s, l[i.toNat - 1]? = some s ∧ termAt l i = s.term := by
  have hlt : i.toNat - 1 < l.length := by omega
  refine ⟨l[i.toNat - 1], List.getElem?_eq_getElem hlt, ?_⟩
  rw [termAt, if_neg (by omega), List.getD_eq_getElem?_getD, List.getElem?_eq_getElem hlt]; rfl
theorem termAt_zero (l : List Slot) : termAt l 0 = 0 := by simp [termAt]
theorem lastT_nil : lastT [] = 0 := by simp [lastT, termAt]
theorem lastT_pos {l : List Slot} (h : l ≠ []) : ∃ s, l[l.length - 1]? = some s ∧ lastT l = s.term := by
  have h1 := List.length_pos_iff.2 h
  have h2 := termAt_pos (l := l) (i := l.length) (by omega) (by omega)
  simpa [lastT] using h2
theorem termAt_pre {a b : List Slot} {i : Int} (h : a <+: b) (h0 : 0 ≤ i) (h1 : i ≤ a.length) : termAt b i = termAt a i := by
  by_cases e : i = 0
  · subst e; simp [termAt]
  · obtain ⟨s, h2, h3⟩ := termAt_pos (l := a) (i := i) (by omega) h1
    have hb : i ≤ b.length := by have := h.length_le; omega
    obtain ⟨s', h4, h5⟩ := termAt_pos (l := b) (i := i) (by omega) hb
    have := pre_get h h2
    rw [this] at h4; cases h4
    rw [h3, h5]

/- 3. WHAT GROWS -/
structure Le (G G' : Gh) : Prop where
  el : ∀ {T}, G.el T → G'.el T ∧ G'.who T = G.who T
  vf : ∀ {v T c}, G.vf v T = some c → G'.vf v T = some c
  cl : ∀ {v T}, G.vf v T ≠ none → G'.cl v T = G.cl v T
  vl : ∀ {v T l}, G.vl v T = some l → G'.vl v T = some l
  LL : ∀ {T}, G.el T → G.LL T <+: G'.LL T
  ack : ∀ {v T}, G.ack v T ≤ G'.ack v T
theorem Le.refl (G : Gh) : Le G G := ⟨fun h => ⟨h, rfl⟩, id, fun _ => rfl, id, fun _ => List.prefix_refl _, Nat.le_refl _⟩
theorem Le.trans {A B C : Gh} (h : Le A B) (h' : Le B C) : Le A C where
  el := fun x => ⟨(h'.el (h.el x).1).1, (h'.el (h.el x).1).2.trans (h.el x).2⟩
  vf := fun x => h'.vf (h.vf x)
  cl := fun {v T} x => by
    rw [← h.cl x]
    refine h'.cl fun e => ?_
    cases e2 : A.vf v T with
    | none => exact x e2
    | some c => rw [h.vf e2] at e; cases e
  vl := fun x => h'.vl (h.vl x)
  LL := fun x => (h.LL x).trans (h'.LL (h.el x).1)
  ack := Nat.le_trans h.ack h'.ack
/-- Node j's step. -/
structure Ext (j : Int) (G G' : Gh) : Prop extends Le G G' where
  vfo : ∀ {i}, i ≠ j → ∀ T, G'.vf i T = G.vf i T
  acko : ∀ {i}, i ≠ j → ∀ T, G'.ack i T = G.ack i T
  LLo : ∀ {T}, G.el T → G.who T ≠ j → G'.LL T = G.LL T
  elo : ∀ {T}, ¬ G.el T → G'.el T → G'.who T = j
theorem Ext.refl (j : Int) (G : Gh) : Ext j G G := { Le.refl G with vfo := fun _ _ => rfl, acko := fun _ _ => rfl, LLo := fun _ _ => rfl, elo := fun h h' => absurd h' h }
theorem Ext.trans {j : Int} {A B C : Gh} (h : Ext j A B) (h' : Ext j B C) : Ext j A C :=
  { h.toLe.trans h'.toLe with
    vfo := fun i T => (h'.vfo i T).trans (h.vfo i T)
    acko := fun i T => (h'.acko i T).trans (h.acko i T)
    LLo := fun {T} e w => (h'.LLo (h.el e).1 (by rw [(h.el e).2]; exact w)).trans (h.LLo e w)
    elo := fun {T} n e => by
      by_cases hb : B.el T
      · rw [(h'.el hb).2]; exact h.elo n hb
      · exact h'.elo hb e }

section
variable {N : Nat} {G G' : Gh} {j : Int}
theorem wf.mono (hl : Le G G') {l : List Slot} {T T' : Int} (h : wf G l T) (hT : T ≤ T') : wf G' l T' := fun k s hk => by
  obtain ⟨a, b, c, d⟩ := h k s hk
  exact ⟨a, by omega, (hl.el c).1, d.trans (hl.LL c)⟩
theorem wf.sub {l l' : List Slot} {T : Int} (h : wf G l T) (hp : l' <+: l) : wf G l' T := fun k s hk => by
  obtain ⟨a, b, c, d⟩ := h k s (pre_get hp hk)
  have hlt := (List.getElem?_eq_some_iff.1 hk).1
  refine ⟨a, b, c, ?_⟩
  rw [← pre_take hp (by omega)]; exact d
theorem wf.eq {l l' : List Slot} {T T' : Int} {k : Nat} {s s' : Slot} (h : wf G l T) (h' : wf G l' T') (hk : l[k]? = some s) (hk' : l'[k]? = some s') (e : s.term = s'.term) : l.take (k + 1) = l'.take (k + 1) := by
  have h1 := (h k s hk).2.2.2
  have h2 := (h' k s' hk').2.2.2
  rw [← e] at h2
  have l1 := (List.getElem?_eq_some_iff.1 hk).1
  have l2 := (List.getElem?_eq_some_iff.1 hk').1
  have e1 : (l.take (k + 1)).length = k + 1 := by rw [List.length_take]; omega
  have e2 : (l'.take (k + 1)).length = k + 1 := by rw [List.length_take]; omega
  exact List.IsPrefix.eq_of_length_le (pre_of_le h1 h2 (by omega)) (by omega)
theorem Le.CL (hl : Le G G') (hG : GOK N G) {T : Int} (h : G.el T) : G'.CL T = G.CL T := by
  unfold Gh.CL
  rw [(hl.el h).2]
  exact hl.cl (by rw [hG.self h]; simp)
theorem Le.takeLL (hl : Le G G') {T : Int} (h : G.el T) {k : Nat} (hk : k ≤ (G.LL T).length) : (G'.LL T).take k = (G.LL T).take k := pre_take (hl.LL h) hk
theorem Cmt.mono (hl : Le G G') {t : Int} {k : Nat} (h : Cmt N G t k) : Cmt N G' t k := by
  obtain ⟨a, b, c, ⟨s, d, e⟩, f⟩ := h
  exact ⟨(hl.el a).1, b, by have := (hl.LL a).length_le; omega, ⟨s, pre_get (hl.LL a) d, e⟩, maj_mono f fun v _ _ x => Nat.le_trans x hl.ack⟩
theorem ComOK.mono (hl : Le G G') {l : List Slot} {c T T' : Int} (h : ComOK N G l c T) (hT : T ≤ T') : ComOK N G' l c T' := by
  obtain ⟨a, b, d⟩ := h
  refine ⟨a, b, d.imp id fun ⟨t, k, e, f, g, i⟩ => ⟨t, k, by omega, f.mono hl, g, ?_⟩⟩
  rw [hl.takeLL f.1 f.2.2.1]; exact i
theorem ComOK.grow {l l' : List Slot} {c T : Int} (h : ComOK N G l c T) (hp : l <+: l') : ComOK N G l' c T := by
  obtain ⟨a, b, d⟩ := h
  have hle := hp.length_le
  refine ⟨a, by omega, d.imp id fun ⟨t, k, e, f, g, i⟩ => ⟨t, k, e, f, g, ?_⟩⟩
  rw [pre_take hp (by omega)]; exact i
theorem X.mono (hl : Le G G') (hG : GOK N G) {v t : Int} {k : Nat} (hk : k ≤ G.ack v t) (h1 : 1 ≤ k) : (G'.LL t).take k = (G.LL t).take k := by
  obtain ⟨a, b⟩ := hG.ack (v := v) (t := t) (by omega)
  exact hl.takeLL a (by omega)

theorem MOK.mono (hl : Le G G') {m : Msg} (h : MOK N G m) : MOK N G' m where
  kind := h.kind
  frm := h.frm
  to := h.to
  ne := h.ne
  term := h.term
  nat := h.nat
  vote := fun e => by
    obtain ⟨a, b, c⟩ := h.vote e
    have := hl.cl (v := m.frm) (T := m.term) (by rw [a]; simp)
    exact ⟨hl.vf a, by rw [this]; exact b, by rw [this]; exact c⟩
  voted := fun e y => hl.vf (h.voted e y)
  app := fun e => by
    obtain ⟨a, b, c, d, f, g⟩ := h.app e
    have hn := h.nat
    have hp := hl.LL a
    have hle := hp.length_le
    refine ⟨(hl.el a).1, (hl.el a).2.trans b, by omega, ?_, ?_, (g.mono hl (Int.le_refl _)).grow hp⟩
    · obtain ⟨c', hc'⟩ := hp
      rw [← hc', List.drop_append_of_le_length (by omega), List.take_append_of_le_length (by rw [List.length_drop]; omega)]
      exact d
    · rw [termAt_pre hp (by omega) (by omega)]; exact f
  stored := fun e y => by
    obtain ⟨a, b, c⟩ := h.stored e y
    have := hl.ack (v := m.frm) (T := m.term)
    exact ⟨(hl.el a).1, (hl.el a).2.trans b, by omega⟩

/-- Another node's step. -/
theorem NOK.other (hG : GOK N G) (hl : Ext j G G') {i : Int} (hij : i ≠ j) {p : Peer} (h : NOK N G i p) : NOK N G' i p where
  id := h.id
  nodes := h.nodes
  rng := h.rng
  term := h.term
  voted := h.voted
  vot := fun e => by rw [hl.vfo hij]; exact h.vot e
  novot := fun e => by rw [hl.vfo hij]; exact h.novot e
  fut := fun t e => by rw [hl.vfo hij]; exact h.fut t e
  wfl := h.wfl.mono hl.toLe (Int.le_refl _)
  ackR := fun t e => by rw [hl.acko hij] at e; exact h.ackR t e
  keep := fun t k h1 hk => by
    rw [hl.acko hij] at hk
    rw [X.mono hl.toLe hG hk h1]
    refine (h.keep t k h1 hk).imp (fun x => x) fun ⟨u, a, b, c, d⟩ => ⟨u, a, b, (hl.el c).1, ?_⟩
    rw [hl.toLe.CL hG c]; exact d
  com := h.com.mono hl.toLe (Int.le_refl _)
  role := h.role
  nv := h.nv
  nm := h.nm
  c1 := fun e => by
    obtain ⟨a, b, c, d, f⟩ := h.c1 e
    have hv : G.vf i p.term ≠ none := by
      rw [h.vot (by have := h.rng; omega)]; simp
    refine ⟨a, b, (hl.cl hv).trans c, fun ⟨x, y⟩ => ?_, f⟩
    by_cases hx : G.el p.term
    · exact d ⟨hx, by rw [← (hl.el hx).2]; exact y⟩
    · exact hij (y.symm.trans (hl.elo hx x))
  c2 := fun e v hv => hl.vf (h.c2 e v hv)
  c3 := h.c3
  l1 := fun e => by
    obtain ⟨a, b, c, d⟩ := h.l1 e
    exact ⟨a, (hl.el b).1, (hl.el b).2.trans c, by rw [hl.LLo b (by rw [c]; exact hij)]; exact d⟩
  l2 := fun e v m hm => by
    have := h.l2 e v m hm
    have := hl.ack (v := v) (T := p.term)
    omega

/- 4. WHAT IS COMMITTED STANDS IN THE LOG OF EVERY LATER LEADER -/
theorem le_lastT (hG : GOK N G) {l : List Slot} {T : Int} (h : wf G l T) {k : Nat} {s : Slot} (hk : l[k]? = some s) : s.term ≤ lastT l := by
  have hne : l ≠ [] := fun e => by rw [e] at hk; simp at hk
  obtain ⟨z, hz, e⟩ := lastT_pos hne
  rw [e]
  obtain ⟨_, _, hel, hp⟩ := h _ z hz
  have hlt := (List.getElem?_eq_some_iff.1 hk).1
  have hk' : (l.take (l.length - 1 + 1))[k]? = some s := get_take hk (by omega)
  exact ((hG.wfl hel) k s (pre_get hp hk')).2.1
theorem leader_complete (hG : GOK N G) {t : Int} {k : Nat} (hc : Cmt N G t k) : ∀ (d : Nat) (T : Int), T - t = d → G.el T → t < T → (G.LL t).take k <+: G.CL T := by
  intro d
  induction d using Nat.strongRecOn with
  | ind d ih =>
    intro T hd hT htT
    obtain ⟨ht, h1, hk, ⟨s, hs, hst⟩, hm⟩ := hc
    have IH : ∀ u, t < u → u < T → G.el u → (G.LL t).take k <+: G.CL u := fun u a b c => ih (u - t).toNat (by omega) u (by omega) c a
    obtain ⟨v, _, _, hack, hvf, l, hvl, hgood, hwl⟩ := maj_two hm (hG.vote hT)
    have hX : (G.LL t).take k <+: l := by
      rcases hG.vlk hvl t k h1 hack htT with h | ⟨u, a, b, c, e⟩
      · exact h
      · exact absurd (IH u a b c) e
    have hXlen : ((G.LL t).take k).length = k := by rw [List.length_take]; omega
    have hlk : l[k - 1]? = some s := pre_get hX (get_take hs (by omega))
    have hllt := (List.getElem?_eq_some_iff.1 hlk).1
    have hlast := le_lastT hG hwl hlk
    rw [hst] at hlast
    have hwC : wf G (G.CL T) T := (hG.wfl hT).sub (hG.pre hT)
    have h1t := (hG.el1 ht).1
    have hne : G.CL T ≠ [] := fun e => by
      rw [e] at hgood
      rcases hgood with h | ⟨_, h⟩
      · rw [lastT_nil] at h; omega
      · simp at h; rw [h] at hllt; simp at hllt
    obtain ⟨z, hz, ez⟩ := lastT_pos hne
    obtain ⟨_, _, hel, hp⟩ := hwC _ z hz
    have hClen := List.length_pos_iff.2 hne
    rw [show (G.CL T).length - 1 + 1 = (G.CL T).length from by omega, List.take_length] at hp
    have hzT : z.term < T := hG.lt hT z (List.mem_of_getElem? hz)
    have key : t < z.term → (G.LL t).take k <+: G.CL T := fun hlt => by
      have hXu : (G.LL t).take k <+: G.LL z.term := (IH z.term hlt hzT hel).trans (hG.pre hel)
      rcases Nat.le_total k (G.CL T).length with h | h
      · exact pre_of_le hXu hp (by omega)
      · exfalso
        have hCX := pre_of_le hp hXu (by omega)
        have h2 := (hG.wfl ht _ z (take_get (pre_get hCX hz)).1).2.1
        omega
    rcases hgood with h | ⟨h, hlen⟩
    · exact key (by omega)
    · have hlne : l ≠ [] := fun e => by rw [e] at hllt; simp at hllt
      obtain ⟨y, hy, ey⟩ := lastT_pos hlne
      obtain ⟨_, _, _, hp2⟩ := hwl _ y hy
      have hl0 := List.length_pos_iff.2 hlne
      rw [show l.length - 1 + 1 = l.length from by omega, List.take_length] at hp2
      rw [show y.term = z.term from by omega] at hp2
      exact hX.trans (pre_of_le hp2 hp hlen)
theorem Cmt.leader (hG : GOK N G) {t T : Int} {k : Nat} (hc : Cmt N G t k) (hT : G.el T) (h : t < T) : (G.LL t).take k <+: G.CL T := leader_complete hG hc (T - t).toNat T (by omega) hT h
theorem Cmt.leaderL (hG : GOK N G) {t T : Int} {k : Nat} (hc : Cmt N G t k) (hT : G.el T) (h : t ≤ T) : (G.LL t).take k <+: G.LL T := by
  by_cases e : t = T
  · subst e; exact take_pre _ _
  · exact (hc.leader hG hT (by omega)).trans (hG.pre hT)
/-- Any two that are committed. -/
theorem Cmt.two (hG : GOK N G) {t t' : Int} {k k' : Nat} (hc : Cmt N G t k) (hc' : Cmt N G t' k') : ∃ T, G.el T ∧ (G.LL t).take k <+: G.LL T ∧ (G.LL t').take k' <+: G.LL T := by
  rcases Int.le_total t t' with h | h
  · exact ⟨t', hc'.1, hc.leaderL hG hc'.1 h, take_pre _ _⟩
  · exact ⟨t, hc.1, take_pre _ _, hc'.leaderL hG hc.1 h⟩
end
end Go.Rp
