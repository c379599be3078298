/- The steps of a node, and that each keeps what holds. -/
import Derived.Test.YtilcnglcflohoaaRaft
namespace Go.Rp

/- 1. THE STEPS -/
def leadP (p : Peer) : Peer := { p with role := 2, votes := [], mtch := (List.replicate p.nodes.toNat 0).set p.id.toNat p.log.length }
def others (p : Peer) (f : Int → Msg) : List Msg := ((List.range p.nodes.toNat).filter fun i : Nat => decide ((i : Int) ≠ p.id)).map fun i : Nat => f i
def campQ (p : Peer) : Peer := { p with term := p.term + 1, voted := p.id, role := 1, mtch := [], votes := (List.replicate p.nodes.toNat false).set p.id.toNat true }
def campM (p : Peer) (i : Int) : Msg := ⟨1, p.id, i, p.term + 1, p.log.length, lastT p.log, 0, [], false⟩
def campaign (p : Peer) : Peer × List Msg := (if p.nodes = 1 then leadP (campQ p) else campQ p, others p (campM p))
def hasN (p : Peer) (n : Int) : Nat := p.mtch.countP fun m => decide (n ≤ m)
def best (p : Peer) : Nat → Int
  | 0 => p.commit
  | n + 1 => if ((n + 1 : Nat) : Int) ≤ p.commit then p.commit else if termAt p.log ((n + 1 : Nat) : Int) = p.term ∧ p.nodes < 2 * (hasN p ((n + 1 : Nat) : Int) : Int) then ((n + 1 : Nat) : Int) else best p n
def counted (p : Peer) : Peer := { p with commit := best p p.log.length }
def propQ (p : Peer) (data : List UInt8) : Peer := { p with log := p.log ++ [⟨p.term, data⟩], mtch := p.mtch.set p.id.toNat (p.log.length + 1) }
def propose (p : Peer) (data : List UInt8) : Peer := counted (propQ p data)
def beatM (p : Peer) (i : Int) : Msg := ⟨3, p.id, i, p.term, p.mtch.getD i.toNat 0, termAt p.log (p.mtch.getD i.toNat 0), p.commit, p.log.drop (p.mtch.getD i.toNat 0).toNat, false⟩
def beat (p : Peer) : List Msg := if p.role = 2 then others p (beatM p) else []
def down (p : Peer) (T : Int) : Peer := { p with term := T, role := 0, voted := -1, votes := [], mtch := [] }
def recent (p : Peer) (m : Msg) : Prop := lastT p.log < m.prev ∨ (m.prev = lastT p.log ∧ (p.log.length : Int) ≤ m.index)
instance (p : Peer) (m : Msg) : Decidable (recent p m) := by unfold recent; infer_instance
def grants (p : Peer) (m : Msg) : Prop := m.term = p.term ∧ recent p m ∧ (p.voted = -1 ∨ p.voted = m.frm)
instance (p : Peer) (m : Msg) : Decidable (grants p m) := by unfold grants; infer_instance
def voteP (p : Peer) (m : Msg) : Peer := if grants p m then { p with voted := m.frm } else p
def voteM (p : Peer) (m : Msg) : Msg := ⟨2, p.id, m.frm, p.term, 0, 0, 0, [], decide (grants p m)⟩
def addVote (p : Peer) (v : Int) : Peer := { p with votes := p.votes.set v.toNat true }
def votedP (p : Peer) (m : Msg) : Peer := if p.role ≠ 1 then p else if p.nodes < 2 * ((addVote p m.frm).votes.countP (· == true) : Int) then leadP (addVote p m.frm) else addVote p m.frm
def merge (log : List Slot) : Nat → List Slot → List Slot
  | _, [] => log
  | k, s :: r => if k < log.length ∧ (log.getD k ⟨0, []⟩).term = s.term then merge log (k + 1) r else log.take k ++ s :: r
def followP (p : Peer) : Peer := { p with role := 0, votes := [] }
def ends (m : Msg) : Int := m.index + m.slots.length
def storeP (p : Peer) (m : Msg) : Peer := { p with log := merge p.log m.index.toNat m.slots, commit := max p.commit (min m.commit (ends m)) }
def noM (p : Peer) (m : Msg) : Msg := ⟨4, p.id, m.frm, p.term, 0, 0, 0, [], false⟩
def yesM (p : Peer) (m : Msg) : Msg := ⟨4, p.id, m.frm, p.term, ends m, 0, 0, [], true⟩
def misses (p : Peer) (m : Msg) : Prop := (p.log.length : Int) < m.index ∨ (0 < m.index ∧ termAt p.log m.index ≠ m.prev)
instance (p : Peer) (m : Msg) : Decidable (misses p m) := by unfold misses; infer_instance
def store (p : Peer) (m : Msg) : Peer × List Msg :=
  if m.term < p.term ∨ p.role = 2 then (p, [noM p m]) else if misses p m then (followP p, [noM p m]) else (storeP (followP p) m, [yesM p m])
def storedP (p : Peer) (m : Msg) : Peer := if p.role ≠ 2 ∨ (p.log.length : Int) < m.index ∨ m.index ≤ p.mtch.getD m.frm.toNat 0 then p else counted { p with mtch := p.mtch.set m.frm.toNat m.index }
def raised (p : Peer) (m : Msg) : Peer := if p.term < m.term then down p m.term else p
def strange (p : Peer) (m : Msg) : Prop := m.to ≠ p.id ∨ m.frm < 0 ∨ p.nodes ≤ m.frm ∨ m.frm = p.id ∨ m.kind < 1 ∨ 4 < m.kind
instance (p : Peer) (m : Msg) : Decidable (strange p m) := by unfold strange; infer_instance
def handleQ (q : Peer) (m : Msg) : Peer × List Msg :=
  if m.kind = 1 then (voteP q m, [voteM q m]) else if m.kind = 2 then (if m.term < q.term ∨ m.yes = false then q else votedP q m, [])
  else if m.kind = 3 then store q m else (if m.term < q.term ∨ m.yes = false then q else storedP q m, [])
def handle (p : Peer) (m : Msg) : Peer × List Msg := if strange p m then (p, []) else handleQ (raised p m) m
def restart (p : Peer) : Peer := { p with role := 0, commit := 0, votes := [], mtch := [] }
def committed (p : Peer) : List (List UInt8) := (p.log.take p.commit.toNat).map (·.data)

theorem set_get {α : Type} {l : List α} {k u : Nat} {x m : α} (h : (l.set k x)[u]? = some m) : (k = u ∧ m = x) ∨ (k ≠ u ∧ l[u]? = some m) := by
  by_cases e : k = u
  · subst e
    rw [List.getElem?_set, if_pos rfl] at h
    split at h
    · cases h; exact .inl ⟨rfl, rfl⟩
    · cases h
  · rw [List.getElem?_set_ne e] at h; exact .inr ⟨e, h⟩
theorem good.refl (l : List Slot) : good l l := .inr ⟨rfl, Nat.le_refl _⟩

section
variable {N : Nat} {G : Gh} {j : Int} {p : Peer}

/- 2. WHAT LEAVES THE GHOST ALONE -/
theorem down_ok (h : NOK N G j p) {T : Int} (hT : p.term < T) : NOK N G j (down p T) where
  id := h.id
  nodes := h.nodes
  rng := h.rng
  term := by have := h.term; show 0 ≤ T; omega
  voted := by have := h.rng; show -1 ≤ (-1 : Int) ∧ (-1 : Int) < N; omega
  vot := fun e => absurd rfl e
  novot := fun _ => h.fut T hT
  fut := fun t e => h.fut t (by have : T < t := e; omega)
  wfl := h.wfl.mono (Le.refl G) (Int.le_of_lt hT)
  ackR := fun t e => by have := h.ackR t e; show t ≤ T; omega
  keep := fun t k h1 hk => (h.keep t k h1 hk).imp (fun x => x) fun ⟨u, a, b, c⟩ => ⟨u, a, by show u ≤ T; omega, c⟩
  com := h.com.mono (Le.refl G) (Int.le_of_lt hT)
  role := .inl rfl
  nv := fun _ => rfl
  nm := fun _ => rfl
  c1 := fun e => by cases e
  c2 := fun e => by cases e
  c3 := fun e => by cases e
  l1 := fun e => by cases e
  l2 := fun e => by cases e
theorem restart_ok (h : NOK N G j p) : NOK N G j (restart p) where
  id := h.id
  nodes := h.nodes
  rng := h.rng
  term := h.term
  voted := h.voted
  vot := h.vot
  novot := h.novot
  fut := h.fut
  wfl := h.wfl
  ackR := h.ackR
  keep := h.keep
  com := ⟨Int.le_refl _, by show (0 : Int) ≤ (p.log.length : Int); omega, .inl rfl⟩
  role := .inl rfl
  nv := fun _ => rfl
  nm := fun _ => rfl
  c1 := fun e => by cases e
  c2 := fun e => by cases e
  c3 := fun e => by cases e
  l1 := fun e => by cases e
  l2 := fun e => by cases e
theorem follow_ok (h : NOK N G j p) (hr : p.role ≠ 2) : NOK N G j (followP p) where
  id := h.id
  nodes := h.nodes
  rng := h.rng
  term := h.term
  voted := h.voted
  vot := h.vot
  novot := h.novot
  fut := h.fut
  wfl := h.wfl
  ackR := h.ackR
  keep := h.keep
  com := h.com
  role := .inl rfl
  nv := fun _ => rfl
  nm := fun _ => h.nm hr
  c1 := fun e => by cases e
  c2 := fun e => by cases e
  c3 := fun e => by cases e
  l1 := fun e => by cases e
  l2 := fun e => by cases e
theorem addVote_ok (h : NOK N G j p) {v : Int} (hv : 0 ≤ v) (hf : G.vf v p.term = some j) : NOK N G j (addVote p v) where
  id := h.id
  nodes := h.nodes
  rng := h.rng
  term := h.term
  voted := h.voted
  vot := h.vot
  novot := h.novot
  fut := h.fut
  wfl := h.wfl
  ackR := h.ackR
  keep := h.keep
  com := h.com
  role := h.role
  nv := fun e => by show p.votes.set _ _ = []; rw [h.nv e]; rfl
  nm := h.nm
  c1 := fun e => by
    obtain ⟨a, b⟩ := h.c1 e
    exact ⟨by show (p.votes.set _ _).length = N; rw [List.length_set]; exact a, b⟩
  c3 := h.c3
  c2 := fun e u hu => by
    have hu' : (p.votes.set v.toNat true)[u]? = some true := hu
    by_cases x : v.toNat = u
    · subst x; rw [Int.toNat_of_nonneg hv]; exact hf
    · rw [List.getElem?_set_ne x] at hu'; exact h.c2 e u hu'
  l1 := h.l1
  l2 := h.l2
theorem match_ok (h : NOK N G j p) {v i : Int} (hv : 0 ≤ v) (hi : 0 ≤ i) (ha : i ≤ (G.ack v p.term : Int)) : NOK N G j { p with mtch := p.mtch.set v.toNat i } where
  id := h.id
  nodes := h.nodes
  rng := h.rng
  term := h.term
  voted := h.voted
  vot := h.vot
  novot := h.novot
  fut := h.fut
  wfl := h.wfl
  ackR := h.ackR
  keep := h.keep
  com := h.com
  role := h.role
  nv := h.nv
  nm := fun e => by show p.mtch.set _ _ = []; rw [h.nm e]; rfl
  c1 := h.c1
  c2 := h.c2
  c3 := h.c3
  l1 := fun e => by
    obtain ⟨a, b⟩ := h.l1 e
    exact ⟨by show (p.mtch.set _ _).length = N; rw [List.length_set]; exact a, b⟩
  l2 := fun e u m hu => by
    have hu' : (p.mtch.set v.toNat i)[u]? = some m := hu
    rcases set_get hu' with ⟨rfl, rfl⟩ | ⟨_, x⟩
    · rw [Int.toNat_of_nonneg hv]; exact ⟨hi, ha⟩
    · exact h.l2 e u m x

theorem countP_range (l : List Int) (q : Int → Bool) : l.countP q = (List.range l.length).countP fun i => match l[i]? with | some m => q m | none => false := by
  induction l with
  | nil => rfl
  | cons x l ih =>
    rw [List.length_cons, List.range_succ_eq_map, List.countP_cons, List.countP_cons, List.countP_map, ih]
    rfl
theorem countP_rangeB (l : List Bool) (q : Bool → Bool) : l.countP q = (List.range l.length).countP fun i => match l[i]? with | some m => q m | none => false := by
  induction l with
  | nil => rfl
  | cons x l ih =>
    rw [List.length_cons, List.range_succ_eq_map, List.countP_cons, List.countP_cons, List.countP_map, ih]
    rfl
theorem maj_acks (h : NOK N G j p) (hr : p.role = 2) {n : Nat} (hm : p.nodes < 2 * (hasN p n : Int)) : maj N fun i => n ≤ G.ack i p.term := by
  unfold hasN at hm
  rw [countP_range, (h.l1 hr).1, h.nodes] at hm
  unfold maj cnt
  show N < 2 * (List.range N).countP (fun i : Nat => @decide (n ≤ G.ack i p.term) (Classical.propDecidable _))
  have : (List.range N).countP (fun i => match p.mtch[i]? with | some m => decide ((n : Int) ≤ m) | none => false) ≤ (List.range N).countP (fun i : Nat => @decide (n ≤ G.ack i p.term) (Classical.propDecidable _)) :=
    List.countP_mono_left fun x _ hp => by
      split at hp
      · rename_i m hm'
        have := h.l2 hr x m hm'
        simp only [decide_eq_true_eq] at hp ⊢
        omega
      · cases hp
  omega
theorem best_cases (p : Peer) : ∀ n : Nat, best p n = p.commit ∨ ∃ k : Nat, 1 ≤ k ∧ k ≤ n ∧ best p n = (k : Int) ∧ p.commit < (k : Int) ∧ termAt p.log k = p.term ∧ p.nodes < 2 * (hasN p k : Int)
  | 0 => .inl rfl
  | n + 1 => by
    unfold best
    by_cases h1 : ((n + 1 : Nat) : Int) ≤ p.commit
    · rw [if_pos h1]; exact .inl rfl
    · rw [if_neg h1]
      by_cases h2 : termAt p.log ((n + 1 : Nat) : Int) = p.term ∧ p.nodes < 2 * (hasN p ((n + 1 : Nat) : Int) : Int)
      · rw [if_pos h2]; exact .inr ⟨n + 1, by omega, Nat.le_refl _, rfl, by omega, h2.1, h2.2⟩
      · rw [if_neg h2]
        exact (best_cases p n).imp (fun x => x) fun ⟨k, a, b, c⟩ => ⟨k, a, by omega, c⟩
theorem counted_ok (h : NOK N G j p) (hr : p.role = 2) : NOK N G j (counted p) where
  id := h.id
  nodes := h.nodes
  rng := h.rng
  term := h.term
  voted := h.voted
  vot := h.vot
  novot := h.novot
  fut := h.fut
  wfl := h.wfl
  ackR := h.ackR
  keep := h.keep
  com := by
    show ComOK N G p.log (best p p.log.length) p.term
    rcases best_cases p p.log.length with e | ⟨k, a, b, e, _, c, d⟩
    · rw [e]; exact h.com
    · rw [e]
      obtain ⟨l1, l2, l3, l4⟩ := h.l1 hr
      refine ⟨by omega, by omega, .inr ⟨p.term, k, Int.le_refl _, ⟨l2, a, by rw [l4]; exact b, ?_, maj_acks h hr d⟩, Int.le_refl _, ?_⟩⟩
      · obtain ⟨s, hs, es⟩ := termAt_pos (l := p.log) (i := k) (by omega) (by omega)
        exact ⟨s, by rw [l4]; simpa using hs, by omega⟩
      · rw [l4]; simp
  role := h.role
  nv := h.nv
  nm := h.nm
  c1 := h.c1
  c2 := h.c2
  c3 := h.c3
  l1 := h.l1
  l2 := h.l2

/- 3. CAMPAIGNS, VOTES -/
open Classical in
/-- Node j votes for c in term T, its log being l. -/
noncomputable def ghVote (G : Gh) (j T c : Int) (l : List Slot) (L : List Slot) : Gh := { G with
  vf := fun v t => if v = j ∧ t = T then some c else G.vf v t
  cl := fun v t => if v = j ∧ t = T ∧ c = j then L else G.cl v t
  vl := fun v t => if v = j ∧ t = T then (if G.el T then none else some l) else G.vl v t }
theorem vl_none (hG : GOK N G) {v T : Int} (h : G.vf v T = none) : G.vl v T = none := by
  cases e : G.vl v T with
  | none => rfl
  | some l => exact absurd h (hG.vlv e)
theorem ghVote_ext (hG : GOK N G) {T c : Int} {l L : List Slot} (h0 : G.vf j T = none) : Ext j G (ghVote G j T c l L) where
  el := fun h => ⟨h, rfl⟩
  vf := fun {v t d} h => by
    show (if v = j ∧ t = T then some c else G.vf v t) = some d
    rw [if_neg fun e => by rw [e.1, e.2, h0] at h; cases h]; exact h
  cl := fun {v t} h => by
    show (if v = j ∧ t = T ∧ c = j then L else G.cl v t) = _
    rw [if_neg fun e => h (by rw [e.1, e.2.1]; exact h0)]
  vl := fun {v t d} h => by
    show (if v = j ∧ t = T then _ else G.vl v t) = some d
    rw [if_neg fun e => by rw [e.1, e.2, vl_none hG h0] at h; cases h]; exact h
  LL := fun _ => List.prefix_refl _
  ack := Nat.le_refl _
  vfo := fun {i} hi t => by
    show (if i = j ∧ t = T then _ else _) = _
    rw [if_neg fun e => hi e.1]
  acko := fun _ _ => rfl
  LLo := fun _ _ => rfl
  elo := fun h h' => absurd h' h
open Classical in
theorem ghVote_ok (hG : GOK N G) {p : Peer} (h : NOK N G j p) {T c : Int} {L : List Slot} (h0 : G.vf j T = none) (hT : p.term ≤ T) (hself : c ≠ j → G.vf c T = some c) (hgood : c ≠ j → good p.log (G.cl c T)) (hL : c = j → L = p.log) : GOK N (ghVote G j T c p.log L) := by
  have hx := ghVote_ext hG (c := c) (l := p.log) (L := L) h0
  have hCL : ∀ {T'}, G.el T' → (ghVote G j T c p.log L).CL T' = G.CL T' := fun e => hx.toLe.CL hG e
  have hwp : wf G p.log T := h.wfl.mono (Le.refl G) hT
  refine { el1 := hG.el1, pre := fun e => ?_, lt := fun e => ?_, own := fun e => ?_, wfl := hG.wfl, self := fun e => hx.vf (hG.self e), vote := fun {T'} e => ?_, ack := hG.ack, vfk := ?_, cand := ?_, vlv := ?_, vlk := ?_ }
  · rw [hCL e]; exact hG.pre e
  · rw [hCL e]; exact hG.lt e
  · rw [hCL e]; exact hG.own e
  · refine maj_mono (hG.vote (T := T') e) fun v _ _ ⟨a, l, b, d, f⟩ => ⟨hx.vf a, l, hx.vl b, ?_, f⟩
    rw [hCL e]; exact d
  · intro v t d hv
    have hv' : (if v = j ∧ t = T then some c else G.vf v t) = some d := hv
    by_cases e : v = j ∧ t = T
    · rw [if_pos e] at hv'; cases hv'
      obtain ⟨rfl, rfl⟩ := e
      by_cases hel : G.el t
      · exact .inl hel
      · refine .inr ⟨p.log, ?_, ?_, hwp⟩
        · show (if v = v ∧ t = t then (if G.el t then none else some p.log) else _) = _
          rw [if_pos ⟨rfl, rfl⟩, if_neg hel]
        · show good p.log (if c = v ∧ t = t ∧ c = v then L else G.cl c t)
          by_cases ec : c = v
          · rw [if_pos ⟨ec, rfl, ec⟩, hL ec]; exact good.refl _
          · rw [if_neg fun e => ec e.1]; exact hgood ec
    · rw [if_neg e] at hv'
      refine (hG.vfk hv').imp (fun x => x) fun ⟨l, a, b, f⟩ => ⟨l, hx.vl a, ?_, f⟩
      rw [hx.cl (by rw [hG.cand hv']; simp)]; exact b
  · intro v t d hv
    have hv' : (if v = j ∧ t = T then some c else G.vf v t) = some d := hv
    by_cases e : v = j ∧ t = T
    · rw [if_pos e] at hv'; cases hv'
      obtain ⟨rfl, rfl⟩ := e
      by_cases ec : c = v
      · subst ec
        show (if c = c ∧ t = t then some c else _) = _
        rw [if_pos ⟨rfl, rfl⟩]
      · exact hx.vf (hself ec)
    · rw [if_neg e] at hv'; exact hx.vf (hG.cand hv')
  · intro v t l hv
    have hv' : (if v = j ∧ t = T then (if G.el T then none else some p.log) else G.vl v t) = some l := hv
    show (if v = j ∧ t = T then some c else G.vf v t) ≠ none
    by_cases e : v = j ∧ t = T
    · rw [if_pos e]; simp
    · rw [if_neg e] at hv' ⊢; exact hG.vlv hv'
  · intro v t l hv t' k h1 hk hlt
    have hv' : (if v = j ∧ t = T then (if G.el T then none else some p.log) else G.vl v t) = some l := hv
    have old : (G.LL t').take k <+: l ∨ ∃ u, t' < u ∧ u < t ∧ G.el u ∧ ¬ (G.LL t').take k <+: G.CL u := by
      by_cases e : v = j ∧ t = T
      · rw [if_pos e] at hv'
        split at hv'
        · cases hv'
        · rename_i hel
          cases hv'
          obtain ⟨rfl, rfl⟩ := e
          refine (h.keep t' k h1 hk).imp (fun x => x) fun ⟨u, a, b, d, f⟩ => ⟨u, a, ?_, d, f⟩
          have : u ≠ t := fun e => hel (e ▸ d)
          omega
      · rw [if_neg e] at hv'
        exact hG.vlk hv' t' k h1 hk hlt
    refine old.imp (fun x => x) fun ⟨u, a, b, d, f⟩ => ⟨u, a, b, d, ?_⟩
    rw [hCL d]; exact f

theorem camp_ok (hG : GOK N G) (h : NOK N G j p) : ∃ G', Ext j G G' ∧ GOK N G' ∧ NOK N G' j (campQ p) ∧ G'.vf j (p.term + 1) = some j ∧ G'.cl j (p.term + 1) = p.log := by
  have h0 : G.vf j (p.term + 1) = none := h.fut _ (by omega)
  have hx := ghVote_ext hG (c := j) (l := p.log) (L := p.log) h0
  have hg := ghVote_ok hG h (c := j) (L := p.log) h0 (by omega) (fun e => absurd rfl e) (fun e => absurd rfl e) (fun _ => rfl)
  have hvf : (ghVote G j (p.term + 1) j p.log p.log).vf j (p.term + 1) = some j := by
    show (if j = j ∧ p.term + 1 = p.term + 1 then some j else _) = _
    rw [if_pos ⟨rfl, rfl⟩]
  have hcl : (ghVote G j (p.term + 1) j p.log p.log).cl j (p.term + 1) = p.log := by
    show (if j = j ∧ p.term + 1 = p.term + 1 ∧ j = j then p.log else _) = _
    rw [if_pos ⟨rfl, rfl, rfl⟩]
  have hid := h.id
  have hrng := h.rng
  have hnodes := h.nodes
  refine ⟨_, hx, hg, ?_, hvf, hcl⟩
  exact {
    id := h.id
    nodes := h.nodes
    rng := h.rng
    term := by have := h.term; show 0 ≤ p.term + 1; omega
    voted := by show -1 ≤ p.id ∧ p.id < N; omega
    vot := fun _ => by show _ = some p.id; rw [hid]; exact hvf
    novot := fun e => by have e' : p.id = -1 := e; omega
    fut := fun t e => by
      have e' : p.term + 1 < t := e
      show (if j = j ∧ t = p.term + 1 then some j else G.vf j t) = none
      rw [if_neg fun e => by omega]; exact h.fut t (by omega)
    wfl := h.wfl.mono hx.toLe (by show p.term ≤ p.term + 1; omega)
    ackR := fun t e => by have := h.ackR t e; show t ≤ p.term + 1; omega
    keep := fun t k h1 hk => (h.keep t k h1 hk).imp (fun x => x) fun ⟨u, a, b, c, d⟩ => ⟨u, a, by show u ≤ p.term + 1; omega, c, by rw [hx.toLe.CL hG c]; exact d⟩
    com := h.com.mono hx.toLe (by show p.term ≤ p.term + 1; omega)
    role := .inr (.inl rfl)
    nv := fun e => absurd rfl e
    nm := fun _ => rfl
    c1 := fun _ => ⟨by show (List.set _ _ _).length = N; rw [List.length_set, List.length_replicate]; omega, hid, hcl, (fun ⟨a, b⟩ => by
        have := hG.self (T := p.term + 1) a
        have b' : G.who (p.term + 1) = j := b
        rw [b', h0] at this; cases this), fun s hs => by
        obtain ⟨k, hk⟩ := List.mem_iff_getElem?.1 hs
        have := (h.wfl k s hk).2.1
        show s.term < p.term + 1
        omega⟩
    c3 := fun _ => by have := h.term; show 1 ≤ p.term + 1; omega
    c2 := fun _ v hv => by
      have hv' : ((List.replicate p.nodes.toNat false).set p.id.toNat true)[v]? = some true := hv
      have e : (v : Int) = j := by
        by_cases x : p.id.toNat = v
        · omega
        · rw [List.getElem?_set_ne x, List.getElem?_replicate] at hv'
          split at hv' <;> cases hv'
      rw [e]; exact hvf
    l1 := fun e => by cases e
    l2 := fun e => by cases e }

theorem grant_ok (hG : GOK N G) (h : NOK N G j p) {c : Int} (hc : 0 ≤ c ∧ c < N) (hcj : c ≠ j) (hself : G.vf c p.term = some c) (hgood : good p.log (G.cl c p.term)) (hv : p.voted = -1 ∨ p.voted = c) :
    ∃ G', Ext j G G' ∧ GOK N G' ∧ NOK N G' j { p with voted := c } ∧ G'.vf j p.term = some c := by
  by_cases e : p.voted = c
  · have : { p with voted := c } = p := by cases p; simp at e; subst e; rfl
    rw [this]
    exact ⟨G, Ext.refl _ _, hG, h, by rw [← e]; exact h.vot (by omega)⟩
  · have hv1 : p.voted = -1 := by rcases hv with hv | hv; exact hv; exact absurd hv e
    have h0 := h.novot hv1
    have hx := ghVote_ext hG (c := c) (l := p.log) (L := p.log) h0
    have hg := ghVote_ok hG h (c := c) (L := p.log) h0 (Int.le_refl _) (fun _ => hself) (fun _ => hgood) (fun e => absurd e hcj)
    have hvf : (ghVote G j p.term c p.log p.log).vf j p.term = some c := by
      show (if j = j ∧ p.term = p.term then some c else _) = _
      rw [if_pos ⟨rfl, rfl⟩]
    have hr1 : p.role ≠ 1 := fun hr => by have := (h.c1 hr).2.1; have := h.rng; omega
    refine ⟨_, hx, hg, ?_, hvf⟩
    exact {
      id := h.id
      nodes := h.nodes
      rng := h.rng
      term := h.term
      voted := by show -1 ≤ c ∧ c < N; omega
      vot := fun _ => hvf
      novot := fun e => by have e' : c = -1 := e; omega
      fut := fun t e => by
        have e' : p.term < t := e
        show (if j = j ∧ t = p.term then some c else G.vf j t) = none
        rw [if_neg fun e => by omega]; exact h.fut t e'
      wfl := h.wfl
      ackR := h.ackR
      keep := fun t k h1 hk => (h.keep t k h1 hk).imp (fun x => x) fun ⟨u, a, b, c, d⟩ => ⟨u, a, b, c, by rw [hx.toLe.CL hG c]; exact d⟩
      com := h.com.mono hx.toLe (Int.le_refl _)
      role := h.role
      nv := h.nv
      nm := h.nm
      c1 := fun e => absurd e hr1
      c2 := fun e => absurd e hr1
      c3 := fun e => absurd e hr1
      l1 := h.l1
      l2 := h.l2 }

/- 4. A CANDIDATE BECOMES A LEADER -/
theorem lead_ok (hG : GOK N G) (h : NOK N G j p) (hr : p.role = 1) (hm : p.nodes < 2 * (p.votes.countP (· == true) : Int)) : ∃ G', Ext j G G' ∧ GOK N G' ∧ NOK N G' j (leadP p) := by
  obtain ⟨c1, c2, c3, c4, c5⟩ := h.c1 hr
  have hrng := h.rng
  have hid := h.id
  have hnodes := h.nodes
  have hmaj : maj N fun v => G.vf v p.term = some j := by
    rw [countP_rangeB, c1, hnodes] at hm
    unfold maj cnt
    show N < 2 * (List.range N).countP (fun i : Nat => @decide (G.vf i p.term = some j) (Classical.propDecidable _))
    have : (List.range N).countP (fun i => match p.votes[i]? with | some m => m == true | none => false) ≤ (List.range N).countP (fun i : Nat => @decide (G.vf i p.term = some j) (Classical.propDecidable _)) :=
      List.countP_mono_left fun x _ hp => by
        split at hp
        · rename_i m hm'
          simp only [beq_iff_eq] at hp
          subst hp
          simp only [decide_eq_true_eq]
          exact h.c2 hr x hm'
        · cases hp
    omega
  have hnel : ¬ G.el p.term := fun hel => by
    obtain ⟨v, _, _, a, b, _⟩ := maj_two hmaj (hG.vote hel)
    rw [a] at b
    exact c4 ⟨hel, (Option.some.inj b).symm⟩
  have hack0 : ∀ v, G.ack v p.term = 0 := fun v => by
    rcases Nat.eq_zero_or_pos (G.ack v p.term) with e | e
    · exact e
    · exact absurd (hG.ack e).1 hnel
  have hself : G.vf j p.term = some j := by rw [h.vot (by omega), c2]
  let G' : Gh := { G with
    el := fun t => G.el t ∨ t = p.term
    who := fun t => if t = p.term then j else G.who t
    LL := fun t => if t = p.term then p.log else G.LL t
    ack := fun v t => if v = j ∧ t = p.term then p.log.length else G.ack v t }
  have hne : ∀ {t}, G.el t → t ≠ p.term := fun e x => hnel (x ▸ e)
  have hx : Ext j G G' := {
    el := fun {t} e => ⟨.inl e, by show (if t = p.term then j else G.who t) = _; rw [if_neg (hne e)]⟩
    vf := fun e => e
    cl := fun _ => rfl
    vl := fun e => e
    LL := fun {t} e => by show _ <+: (if t = p.term then p.log else G.LL t); rw [if_neg (hne e)]; exact List.prefix_refl _
    ack := fun {v t} => by
      show _ ≤ (if v = j ∧ t = p.term then p.log.length else G.ack v t)
      split
      · rename_i e; rw [e.2, hack0]; omega
      · exact Nat.le_refl _
    vfo := fun _ _ => rfl
    acko := fun {i} hi t => by show (if i = j ∧ t = p.term then _ else _) = _; rw [if_neg fun e => hi e.1]
    LLo := fun {t} e _ => by show (if t = p.term then p.log else G.LL t) = _; rw [if_neg (hne e)]
    elo := fun {t} n e => by
      rcases e with e | e
      · exact absurd e n
      · show (if t = p.term then j else _) = j; rw [if_pos e] }
  have hCL : ∀ {t}, G.el t → G'.CL t = G.CL t := fun e => hx.toLe.CL hG e
  have hCT : G'.CL p.term = p.log := by
    show G.cl (if p.term = p.term then j else _) p.term = _
    rw [if_pos rfl]; exact c3
  have hLT : G'.LL p.term = p.log := by show (if p.term = p.term then p.log else _) = _; rw [if_pos rfl]
  have hLL : ∀ {t}, t ≠ p.term → G'.LL t = G.LL t := fun {t} e => by show (if t = p.term then p.log else G.LL t) = _; rw [if_neg e]
  have hwho : ∀ {t}, t ≠ p.term → G'.who t = G.who t := fun {t} e => by show (if t = p.term then j else G.who t) = _; rw [if_neg e]
  have hwT : G'.who p.term = j := by show (if p.term = p.term then j else _) = _; rw [if_pos rfl]
  have hackn : ∀ {v t}, t ≠ p.term → G'.ack v t = G.ack v t := fun {v t} e => by show (if v = j ∧ t = p.term then _ else _) = _; rw [if_neg fun x => e x.2]
  have hackT : G'.ack j p.term = p.log.length := by show (if j = j ∧ p.term = p.term then _ else _) = _; rw [if_pos ⟨rfl, rfl⟩]
  have hwf : ∀ {l T}, wf G l T → wf G' l T := fun w => w.mono hx.toLe (Int.le_refl _)
  have hterm1 := h.c3 hr
  have hnT : ∀ {t}, G'.el t → t = p.term ∨ G.el t := fun e => e.symm
  refine ⟨G', hx, { el1 := fun {t} e => ?_, pre := fun {t} e => ?_, lt := fun {t} e => ?_, own := fun {t} e => ?_, wfl := fun {t} e => ?_, self := fun {t} e => ?_, vote := fun {t} e => ?_, ack := fun {v t} e => ?_, vfk := fun {v t c} e => ?_, cand := hG.cand, vlv := hG.vlv, vlk := fun {v t l} e => ?_ }, ?_⟩
  · rcases hnT e with e | e
    · subst e; rw [hwT]; exact ⟨hterm1, hrng⟩
    · rw [hwho (hne e)]; exact hG.el1 e
  · rcases hnT e with e | e
    · subst e; rw [hCT, hLT]; exact List.prefix_refl _
    · rw [hCL e, hLL (hne e)]; exact hG.pre e
  · rcases hnT e with e | e
    · subst e; rw [hCT]; exact c5
    · rw [hCL e]; exact hG.lt e
  · rcases hnT e with e | e
    · subst e; rw [hCT, hLT]
      intro k s hk hs
      have := (List.getElem?_eq_some_iff.1 hs).1
      omega
    · rw [hCL e, hLL (hne e)]; exact hG.own e
  · rcases hnT e with e | e
    · subst e; rw [hLT]; exact hwf h.wfl
    · rw [hLL (hne e)]; exact hwf (hG.wfl e)
  · rcases hnT e with e | e
    · subst e; rw [hwT]; exact hself
    · rw [hwho (hne e)]; exact hG.self e
  · rcases hnT e with e | e
    · subst e
      rw [hwT, hCT]
      refine maj_mono hmaj fun v _ _ hv => ⟨hv, ?_⟩
      rcases hG.vfk hv with x | ⟨l, a, b, c⟩
      · exact absurd x hnel
      · rw [c3] at b; exact ⟨l, a, b, hwf c⟩
    · rw [hwho (hne e), hCL e]
      exact maj_mono (hG.vote e) fun v _ _ ⟨a, l, b, c, d⟩ => ⟨a, l, b, c, hwf d⟩
  · by_cases x : t = p.term
    · subst x
      refine ⟨.inr rfl, ?_⟩
      have e' : 1 ≤ (if v = j ∧ p.term = p.term then p.log.length else G.ack v p.term) := e
      show (if v = j ∧ p.term = p.term then p.log.length else G.ack v p.term) ≤ _
      rw [hLT]
      split at e'
      · rename_i y; rw [if_pos y]; exact Nat.le_refl _
      · rename_i y; rw [hack0] at e'; omega
    · rw [hackn x] at e ⊢
      rw [hLL x]
      exact ⟨.inl (hG.ack e).1, (hG.ack e).2⟩
  · rcases hG.vfk e with x | ⟨l, a, b, d⟩
    · exact .inl (.inl x)
    · exact .inr ⟨l, a, b, hwf d⟩
  · intro t' k h1 hk hlt
    by_cases x : t' = p.term
    · subst x
      have hk' : k ≤ (if v = j ∧ p.term = p.term then p.log.length else G.ack v p.term) := hk
      split at hk'
      · rename_i y
        have := hG.vlv e
        rw [y.1, h.fut t hlt] at this
        exact absurd rfl this
      · rw [hack0] at hk'; omega
    · rw [hackn x] at hk
      rw [hLL x]
      exact (hG.vlk e t' k h1 hk hlt).imp (fun x => x) fun ⟨u, a, b, c, d⟩ => ⟨u, a, b, .inl c, by rw [hCL c]; exact d⟩
  · exact {
      id := h.id
      nodes := h.nodes
      rng := h.rng
      term := h.term
      voted := h.voted
      vot := h.vot
      novot := h.novot
      fut := h.fut
      wfl := hwf h.wfl
      ackR := fun t e => by
        by_cases x : t = p.term
        · exact Int.le_of_eq x
        · rw [hackn x] at e; exact h.ackR t e
      keep := fun t k h1 hk => by
        by_cases x : t = p.term
        · subst x; rw [hLT]; exact .inl (take_pre _ _)
        · rw [hackn x] at hk
          rw [hLL x]
          exact (h.keep t k h1 hk).imp (fun x => x) fun ⟨u, a, b, c, d⟩ => ⟨u, a, b, .inl c, by rw [hCL c]; exact d⟩
      com := h.com.mono hx.toLe (Int.le_refl _)
      role := .inr (.inr rfl)
      nv := fun _ => rfl
      nm := fun e => absurd rfl e
      c1 := fun e => by cases e
      c2 := fun e => by cases e
      c3 := fun e => by cases e
      l1 := fun _ => ⟨by show (List.set _ _ _).length = N; rw [List.length_set, List.length_replicate]; omega, .inr rfl, hwT, hLT⟩
      l2 := fun _ v m hv => by
        have hv' : ((List.replicate p.nodes.toNat (0 : Int)).set p.id.toNat p.log.length)[v]? = some m := hv
        rcases set_get hv' with ⟨rfl, rfl⟩ | ⟨_, x⟩
        · skip
          have hj : ((p.id.toNat : Nat) : Int) = j := by omega
          rw [hj]
          have : G'.ack j (leadP p).term = p.log.length := hackT
          omega
        · rw [List.getElem?_replicate] at x
          split at x <;> cases x
          exact ⟨Int.le_refl _, by omega⟩ }

/- 5. A LEADER ADDS A SLOT -/
theorem prop_ok (hG : GOK N G) (h : NOK N G j p) (hr : p.role = 2) (data : List UInt8) : ∃ G', Ext j G G' ∧ GOK N G' ∧ NOK N G' j (propQ p data) := by
  obtain ⟨l1, hel, hwho, hLLp⟩ := h.l1 hr
  have hrng := h.rng
  have hid := h.id
  have hwp : wf G p.log p.term := h.wfl
  let log' := p.log ++ [⟨p.term, data⟩]
  have hlen : log'.length = p.log.length + 1 := by simp [log']
  let G' : Gh := { G with
    LL := fun t => if t = p.term then log' else G.LL t
    ack := fun v t => if v = j ∧ t = p.term then log'.length else G.ack v t }
  have hackle : G.ack j p.term ≤ p.log.length := by
    rcases Nat.eq_zero_or_pos (G.ack j p.term) with e | e
    · omega
    · have := (hG.ack e).2; rw [hLLp] at this; exact this
  have hx : Ext j G G' := {
    el := fun e => ⟨e, rfl⟩
    vf := fun e => e
    cl := fun _ => rfl
    vl := fun e => e
    LL := fun {t} e => by
      show _ <+: (if t = p.term then log' else G.LL t)
      by_cases x : t = p.term
      · rw [if_pos x, x, hLLp]; exact List.prefix_append _ _
      · rw [if_neg x]; exact List.prefix_refl _
    ack := fun {v t} => by
      show _ ≤ (if v = j ∧ t = p.term then log'.length else G.ack v t)
      split
      · rename_i e; rw [e.1, e.2]; omega
      · exact Nat.le_refl _
    vfo := fun _ _ => rfl
    acko := fun {i} hi t => by show (if i = j ∧ t = p.term then _ else _) = _; rw [if_neg fun e => hi e.1]
    LLo := fun {t} e w => by
      show (if t = p.term then log' else G.LL t) = _
      rw [if_neg fun x => w (by rw [x]; exact hwho)]
    elo := fun n e => absurd e n }
  have hCL : ∀ {t}, G.el t → G'.CL t = G.CL t := fun e => hx.toLe.CL hG e
  have hLT : G'.LL p.term = log' := by show (if p.term = p.term then log' else _) = _; rw [if_pos rfl]
  have hLL : ∀ {t}, t ≠ p.term → G'.LL t = G.LL t := fun {t} e => by show (if t = p.term then log' else G.LL t) = _; rw [if_neg e]
  have hackn : ∀ {v t}, ¬ (v = j ∧ t = p.term) → G'.ack v t = G.ack v t := fun {v t} e => by show (if v = j ∧ t = p.term then _ else _) = _; rw [if_neg e]
  have hackT : G'.ack j p.term = log'.length := by show (if j = j ∧ p.term = p.term then _ else _) = _; rw [if_pos ⟨rfl, rfl⟩]
  have hwf : ∀ {l T}, wf G l T → wf G' l T := fun w => w.mono hx.toLe (Int.le_refl _)
  have hterm1 := (hG.el1 hel).1
  have hwl : wf G' log' p.term := fun k s hk => by
    by_cases x : k < p.log.length
    · have hk' : p.log[k]? = some s := by rw [← hk]; exact (List.getElem?_append_left x).symm
      obtain ⟨a, b, c, d⟩ := hwf hwp k s hk'
      refine ⟨a, b, c, ?_⟩
      rw [show log'.take (k + 1) = p.log.take (k + 1) from List.take_append_of_le_length (by omega)]; exact d
    · have hk2 := (List.getElem?_eq_some_iff.1 hk).1
      have e : k = p.log.length := by omega
      subst e
      have hs : s = ⟨p.term, data⟩ := by simpa [log'] using hk.symm
      subst hs
      refine ⟨hterm1, Int.le_refl _, hel, ?_⟩
      show _ <+: G'.LL p.term
      rw [hLT, ← hlen, List.take_length]; exact List.prefix_refl _
  refine ⟨G', hx, { el1 := hG.el1, pre := fun {t} e => ?_, lt := fun {t} e => ?_, own := fun {t} e => ?_, wfl := fun {t} e => ?_, self := hG.self, vote := fun {t} e => ?_, ack := fun {v t} e => ?_, vfk := fun {v t c} e => ?_, cand := hG.cand, vlv := hG.vlv, vlk := fun {v t l} e => ?_ }, ?_⟩
  · rw [hCL e]; exact (hG.pre e).trans (hx.LL e)
  · rw [hCL e]; exact hG.lt e
  · rw [hCL e]
    intro k s hk hs
    by_cases x : t = p.term
    · subst x
      rw [hLT] at hs
      by_cases y : k < p.log.length
      · have hs' : p.log[k]? = some s := by rw [← hs]; exact (List.getElem?_append_left y).symm
        exact hG.own e k s hk (by rw [hLLp]; exact hs')
      · have hk2 := (List.getElem?_eq_some_iff.1 hs).1
        have e : k = p.log.length := by omega
        subst e
        have hs : s = ⟨p.term, data⟩ := by simpa [log'] using hs.symm
        rw [hs]
    · rw [hLL x] at hs; exact hG.own e k s hk hs
  · by_cases x : t = p.term
    · subst x; rw [hLT]; exact hwl
    · rw [hLL x]; exact hwf (hG.wfl e)
  · rw [hCL e]
    exact maj_mono (hG.vote e) fun v _ _ ⟨a, l, b, c, d⟩ => ⟨a, l, b, c, hwf d⟩
  · by_cases x : v = j ∧ t = p.term
    · rw [x.1, x.2, hackT, hLT]; exact ⟨hel, Nat.le_refl _⟩
    · rw [hackn x] at e ⊢
      obtain ⟨a, b⟩ := hG.ack e
      have := (hx.LL a).length_le
      exact ⟨a, by omega⟩
  · rcases hG.vfk e with x | ⟨l, a, b, d⟩
    · exact .inl x
    · exact .inr ⟨l, a, b, hwf d⟩
  · intro t' k h1 hk hlt
    by_cases x : v = j ∧ t' = p.term
    · have := hG.vlv e
      rw [x.1, h.fut t (by omega)] at this
      exact absurd rfl this
    · rw [hackn x] at hk
      rw [X.mono hx.toLe hG hk h1]
      exact (hG.vlk e t' k h1 hk hlt).imp (fun x => x) fun ⟨u, a, b, c, d⟩ => ⟨u, a, b, c, by rw [hCL c]; exact d⟩
  · exact {
      id := h.id
      nodes := h.nodes
      rng := h.rng
      term := h.term
      voted := h.voted
      vot := h.vot
      novot := h.novot
      fut := h.fut
      wfl := hwl
      ackR := fun t e => by
        by_cases x : j = j ∧ t = p.term
        · exact Int.le_of_eq x.2
        · rw [hackn x] at e; exact h.ackR t e
      keep := fun t k h1 hk => by
        by_cases x : t = p.term
        · subst x; rw [hLT]; exact .inl (take_pre _ _)
        · rw [hackn fun e => x e.2] at hk
          rw [hLL x]
          rcases h.keep t k h1 hk with y | ⟨u, a, b, c, d⟩
          · exact .inl (y.trans (List.prefix_append _ _))
          · exact .inr ⟨u, a, b, c, by rw [hCL c]; exact d⟩
      com := (h.com.mono hx.toLe (Int.le_refl _)).grow (List.prefix_append _ _)
      role := h.role
      nv := h.nv
      nm := fun e => absurd hr e
      c1 := fun e => by have e' : p.role = 1 := e; omega
      c2 := fun e => by have e' : p.role = 1 := e; omega
      c3 := fun e => by have e' : p.role = 1 := e; omega
      l1 := fun _ => ⟨by show (p.mtch.set _ _).length = N; rw [List.length_set]; exact l1, hel, hwho, hLT⟩
      l2 := fun _ v m hv => by
        have hv' : (p.mtch.set p.id.toNat ((p.log.length : Int) + 1))[v]? = some m := hv
        rcases set_get hv' with ⟨rfl, rfl⟩ | ⟨_, x⟩
        · skip
          have hj : ((p.id.toNat : Nat) : Int) = j := by omega
          rw [hj]
          have : G'.ack j (propQ p data).term = log'.length := hackT
          omega
        · skip
          have := h.l2 hr v m x
          have := hx.ack (v := v) (T := p.term)
          show 0 ≤ m ∧ m ≤ (G'.ack v p.term : Int)
          omega }

/- 6. A FOLLOWER STORES SLOTS -/
/-- What merge makes: the log as it was, or the leader's first slots. -/
theorem merge_spec {log LL : List Slot} : ∀ (slots : List Slot) (k : Nat), k ≤ log.length → log.take k = LL.take k → k + slots.length ≤ LL.length → (LL.drop k).take slots.length = slots →
    (∀ i s s', log[i]? = some s → LL[i]? = some s' → s.term = s'.term → log.take (i + 1) = LL.take (i + 1)) →
    (merge log k slots = log ∧ log.take (k + slots.length) = LL.take (k + slots.length) ∧ k + slots.length ≤ log.length) ∨
    (merge log k slots = LL.take (k + slots.length) ∧ ∃ a, a < k + slots.length ∧ ∀ X : List Slot, X <+: log → X <+: LL → X.length ≤ a)
  | [], k, hk, he, _, _, _ => .inl ⟨rfl, by simpa using he, by simpa using hk⟩
  | s :: r, k, hk, he, hl, hs, hw => by
    have hkL : k < LL.length := by simp at hl; omega
    have hd := List.drop_eq_getElem_cons hkL
    rw [hd] at hs
    simp only [List.length_cons, List.take_succ_cons, List.cons.injEq] at hs
    obtain ⟨h1, h2⟩ := hs
    unfold merge
    have hstep : LL.take (k + 1 + r.length) = LL.take k ++ LL[k] :: r := by
      rw [show k + 1 + r.length = k + (r.length + 1) from by omega, List.take_add, hd, List.take_succ_cons, h2]
    by_cases hc : k < log.length ∧ (log.getD k ⟨0, []⟩).term = s.term
    · rw [if_pos hc]
      obtain ⟨hc1, hc2⟩ := hc
      rw [List.getD_eq_getElem?_getD, List.getElem?_eq_getElem hc1] at hc2
      replace hc2 : (log[k]'hc1).term = s.term := hc2
      have e2 := hw k _ _ (List.getElem?_eq_getElem hc1) (List.getElem?_eq_getElem hkL) (by rw [h1]; exact hc2)
      have := merge_spec r (k + 1) (by omega) e2 (by simp at hl; omega) h2 hw
      rw [show k + (s :: r).length = k + 1 + r.length from by simp; omega]
      exact this
    · rw [if_neg hc]
      refine .inr ⟨?_, k, by simp, fun X hX hX' => ?_⟩
      · rw [show k + (s :: r).length = k + 1 + r.length from by simp; omega, hstep, he, h1]
      · refine Nat.le_of_not_lt fun hlt => hc ?_
        have hx := List.getElem?_eq_getElem hlt
        have g1 := pre_get hX hx
        have g2 := pre_get hX' hx
        have hlog := (List.getElem?_eq_some_iff.1 g1).1
        refine ⟨hlog, ?_⟩
        rw [List.getD_eq_getElem?_getD, g1]
        rw [List.getElem?_eq_getElem hkL] at g2
        show X[k].term = s.term
        rw [← Option.some.inj g2, h1]

theorem store_ok (hG : GOK N G) (h : NOK N G j p) (hr : p.role = 0) {m : Msg} (hm : MOK N G m) (hk : m.kind = 3) (hT : m.term = p.term) (hmi : ¬ misses p m) (_ : m.to = j) :
    ∃ G', Ext j G G' ∧ GOK N G' ∧ NOK N G' j (storeP p m) ∧ G'.el p.term ∧ G'.who p.term = m.frm ∧ ends m ≤ (G'.ack j p.term : Int) := by
  obtain ⟨hel, hwho, hlen, hsl, hprev, hcom⟩ := hm.app hk
  obtain ⟨hn1, hn2, hn3⟩ := hm.nat
  rw [hT] at hel hwho hlen hsl hprev hcom
  have hwL := hG.wfl hel
  unfold misses at hmi
  have hidx : m.index ≤ p.log.length := by omega
  have hidx2 : m.index ≤ (G.LL p.term).length := by omega
  have hpre : p.log.take m.index.toNat = (G.LL p.term).take m.index.toNat := by
    by_cases e : m.index = 0
    · rw [e]; rfl
    · have e0 : 1 ≤ m.index := by omega
      have e1 : termAt p.log m.index = m.prev := by
        refine Classical.byContradiction fun x => hmi (.inr ⟨by omega, x⟩)
      obtain ⟨s, a, b⟩ := termAt_pos (l := p.log) (i := m.index) e0 hidx
      obtain ⟨s', a', b'⟩ := termAt_pos (l := G.LL p.term) (i := m.index) e0 hidx2
      have := h.wfl.eq hwL a a' (by rw [← b, e1, hprev, b'])
      rw [show m.index.toNat = m.index.toNat - 1 + 1 from by omega]; exact this
  have hms := merge_spec m.slots m.index.toNat (by omega) hpre hlen hsl fun i s s' a b c => h.wfl.eq hwL a b c
  have hend : ends m = ((m.index.toNat + m.slots.length : Nat) : Int) := by
    clear hms hpre hprev hcom hsl
    unfold ends; omega
  generalize hE : m.index.toNat + m.slots.length = E at *
  let G' : Gh := { G with ack := fun v t => if v = j ∧ t = p.term then max (G.ack j p.term) E else G.ack v t }
  have hx : Ext j G G' := {
    el := fun e => ⟨e, rfl⟩
    vf := fun e => e
    cl := fun _ => rfl
    vl := fun e => e
    LL := fun _ => List.prefix_refl _
    ack := fun {v t} => by
      show _ ≤ (if v = j ∧ t = p.term then max (G.ack j p.term) E else G.ack v t)
      split
      · rename_i e; rw [e.1, e.2]; omega
      · exact Nat.le_refl _
    vfo := fun _ _ => rfl
    acko := fun {i} hi t => by show (if i = j ∧ t = p.term then _ else _) = _; rw [if_neg fun e => hi e.1]
    LLo := fun _ _ => rfl
    elo := fun n e => absurd e n }
  have hackn : ∀ {v t}, ¬ (v = j ∧ t = p.term) → G'.ack v t = G.ack v t := fun {v t} e => by show (if v = j ∧ t = p.term then _ else _) = _; rw [if_neg e]
  have hackT : G'.ack j p.term = max (G.ack j p.term) E := by show (if j = j ∧ p.term = p.term then _ else _) = _; rw [if_pos ⟨rfl, rfl⟩]
  have hackle : G.ack j p.term ≤ (G.LL p.term).length := by
    rcases Nat.eq_zero_or_pos (G.ack j p.term) with e | e
    · omega
    · exact (hG.ack e).2
  -- what the new log is
  have hlog' : (storeP p m).log = merge p.log m.index.toNat m.slots := rfl
  have hnew : (merge p.log m.index.toNat m.slots).take E = (G.LL p.term).take E ∧ E ≤ (merge p.log m.index.toNat m.slots).length ∧ wf G (merge p.log m.index.toNat m.slots) p.term := by
    rcases hms with ⟨a, b, c⟩ | ⟨a, _⟩
    · rw [a]; exact ⟨b, c, h.wfl⟩
    · rw [a]; exact ⟨by rw [List.take_take, Nat.min_self], by rw [List.length_take]; omega, hwL.sub (take_pre _ _)⟩
  -- what stands in the old log and in the leader's stays
  have hstay : ∀ X : List Slot, X <+: p.log → X <+: G.LL p.term → X <+: merge p.log m.index.toNat m.slots := by
    intro X a b
    rcases hms with ⟨e, _⟩ | ⟨e, q, hq, hX⟩
    · rw [e]; exact a
    · rw [e]
      have := hX X a b
      exact pre_of_le b (take_pre _ _) (by rw [List.length_take]; omega)
  refine ⟨G', hx, { el1 := hG.el1, pre := hG.pre, lt := hG.lt, own := hG.own, wfl := hG.wfl, self := hG.self, vote := hG.vote, ack := fun {v t} e => ?_, vfk := hG.vfk, cand := hG.cand, vlv := hG.vlv, vlk := fun {v t l} e => ?_ }, ?_, hel, hwho, ?_⟩
  · by_cases x : v = j ∧ t = p.term
    · rw [x.1, x.2, hackT]; exact ⟨hel, by show _ ≤ (G.LL p.term).length; omega⟩
    · rw [hackn x] at e ⊢; exact hG.ack e
  · intro t' k h1 hk hlt
    by_cases x : v = j ∧ t' = p.term
    · have := hG.vlv e
      rw [x.1, h.fut t (by omega)] at this
      exact absurd rfl this
    · rw [hackn x] at hk
      exact hG.vlk e t' k h1 hk hlt
  · exact {
      id := h.id
      nodes := h.nodes
      rng := h.rng
      term := h.term
      voted := h.voted
      vot := h.vot
      novot := h.novot
      fut := h.fut
      wfl := hnew.2.2
      ackR := fun t e => by
        by_cases x : j = j ∧ t = p.term
        · exact Int.le_of_eq x.2
        · rw [hackn x] at e; exact h.ackR t e
      keep := fun t k h1 hk => by
        by_cases x : t = p.term
        · subst x
          rw [hackT] at hk
          left
          by_cases y : k ≤ E
          · show (G.LL p.term).take k <+: _
            rw [show (G.LL p.term).take k = (merge p.log m.index.toNat m.slots).take k from by
              rw [show (G.LL p.term).take k = ((G.LL p.term).take E).take k from by rw [List.take_take, Nat.min_eq_left y], ← hnew.1, List.take_take, Nat.min_eq_left y]]
            exact take_pre _ _
          · rcases h.keep p.term k h1 (by omega) with z | ⟨u, a, b, _⟩
            · exact hstay _ z (take_pre _ _)
            · omega
        · rw [hackn fun e => x e.2] at hk
          have hlt : t < p.term := by have := h.ackR t (by omega); omega
          rcases h.keep t k h1 hk with y | y
          · by_cases z : (G.LL t).take k <+: G.CL p.term
            · exact .inl (hstay _ y (z.trans (hG.pre hel)))
            · exact .inr ⟨p.term, hlt, Int.le_refl _, hel, z⟩
          · exact .inr y
      com := by
        have hc := h.com
        have base : ComOK N G (merge p.log m.index.toNat m.slots) p.commit p.term := by
          obtain ⟨a, b, c⟩ := hc
          rcases c with c | ⟨t, k, d, e, f, g⟩
          · exact ⟨a, by omega, .inl c⟩
          · have hL : p.log.take p.commit.toNat <+: G.LL p.term := g.trans (e.leaderL hG hel d)
            have hs := hstay _ (take_pre _ _) hL
            have hl := hs.length_le
            rw [List.length_take] at hl
            refine ⟨a, by omega, .inr ⟨t, k, d, e, f, ?_⟩⟩
            rw [pre_take hs (by rw [List.length_take]; omega), List.take_take, Nat.min_self]; exact g
        have mbase : ComOK N G (merge p.log m.index.toNat m.slots) (min m.commit (ends m)) p.term := by
          obtain ⟨a, b, c⟩ := hcom
          rw [hend]
          refine ⟨by omega, by have := hnew.2.1; omega, ?_⟩
          rcases c with c | ⟨t, k, d, e, f, g⟩
          · exact .inl (by omega)
          · refine .inr ⟨t, k, d, e, by omega, ?_⟩
            have : (merge p.log m.index.toNat m.slots).take (min m.commit (E : Int)).toNat = (G.LL p.term).take (min m.commit (E : Int)).toNat := by
              rw [show ∀ l : List Slot, l.take (min m.commit (E : Int)).toNat = (l.take E).take (min m.commit (E : Int)).toNat from fun l => by rw [List.take_take, Nat.min_eq_left (by omega)], hnew.1, ← show ∀ l : List Slot, l.take (min m.commit (E : Int)).toNat = (l.take E).take (min m.commit (E : Int)).toNat from fun l => by rw [List.take_take, Nat.min_eq_left (by omega)]]
            rw [this]
            exact (take_take_pre (by omega)).trans g
        show ComOK N G' (merge p.log m.index.toNat m.slots) (max p.commit (min m.commit (ends m))) p.term
        rcases Int.le_total p.commit (min m.commit (ends m)) with y | y
        · rw [Int.max_eq_right y]; exact mbase.mono hx.toLe (Int.le_refl _)
        · rw [Int.max_eq_left y]; exact base.mono hx.toLe (Int.le_refl _)
      role := h.role
      nv := h.nv
      nm := h.nm
      c1 := fun e => by have e' : p.role = 1 := e; omega
      c2 := fun e => by have e' : p.role = 1 := e; omega
      c3 := fun e => by have e' : p.role = 1 := e; omega
      l1 := fun e => by have e' : p.role = 2 := e; omega
      l2 := fun e => by have e' : p.role = 2 := e; omega }
  · rw [hackT, hend]; omega
end
end Go.Rp
