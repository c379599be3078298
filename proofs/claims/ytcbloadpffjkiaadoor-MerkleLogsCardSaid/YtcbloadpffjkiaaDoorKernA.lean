/- The rules, merged. -/
import Derived.WalkKit
import Derived.Orders
import Derived.OrdersHeld
import Derived.Scope
import Derived.KernelRfl
import Derived.ProofKit
import Derived.OpenShut
import Derived.ChangeCalls
namespace Go.Wk

/- 1. FRAGMENTS AND ASSERTIONS -/

abbrev Frag := Nat → Option Obj
def Frag.le (h h' : Frag) : Prop := ∀ k o, h k = some o → h' k = some o
def Frag.disj (h h' : Frag) : Prop := ∀ k, h k = none ∨ h' k = none
def Frag.emp : Frag := fun _ => none
def Frag.one (b : Nat) (o : Obj) : Frag := fun k => if k = b then some o else none
def Frag.un (h h' : Frag) : Frag := fun k => match h k with | some o => some o | none => h' k
def Frag.of (w : World) : Frag := fun k => w.heap[k]?

theorem Frag.le.refl (h : Frag) : h.le h := fun _ _ x => x
theorem Frag.le.trans {a b c : Frag} (h : a.le b) (h' : b.le c) : a.le c := fun k o x => h' k o (h k o x)
theorem Frag.emp_le (h : Frag) : Frag.emp.le h := fun _ _ x => by cases x
theorem Frag.le_un_left (a b : Frag) : a.le (a.un b) := fun k o x => by simp [Frag.un, x]
theorem Frag.le_un_right {a b : Frag} (h : a.disj b) : b.le (a.un b) := fun k o x => by
  rcases h k with h | h
  · simp [Frag.un, h, x]
  · rw [h] at x; cases x
theorem Frag.un_le {a b c : Frag} (h : a.le c) (h' : b.le c) : (a.un b).le c := fun k o x => by
  simp only [Frag.un] at x
  split at x
  · rename_i o' e; cases x; exact h k _ e
  · exact h' k o x
theorem Frag.disj.symm {a b : Frag} (h : a.disj b) : b.disj a := fun k => (h k).symm
theorem Frag.disj.mono {a b a' b' : Frag} (h : a.disj b) (ha : a'.le a) (hb : b'.le b) : a'.disj b' := fun k => by
  rcases h k with h | h
  · left
    cases e : a' k with
    | none => rfl
    | some o => rw [ha k o e] at h; cases h
  · right
    cases e : b' k with
    | none => rfl
    | some o => rw [hb k o e] at h; cases h
theorem Frag.emp_disj (h : Frag) : Frag.emp.disj h := fun _ => .inl rfl
theorem Frag.un_disj {a b c : Frag} (h : a.disj c) (h' : b.disj c) : (a.un b).disj c := fun k => by
  rcases h k with h | h
  · rcases h' k with h' | h'
    · left; simp [Frag.un, h, h']
    · exact .inr h'
  · exact .inr h

/-- An assertion: of the immutable part of memory and of a fragment of its own. -/
abbrev Assn := Frag → Frag → Prop

def Holds (z : Frag) : List Assn → Frag → Prop
  | [], _ => True
  | A :: L, h => ∃ h1 h2 z1, z1.le z ∧ h1.disj h2 ∧ h1.le h ∧ h2.le h ∧ A z1 h1 ∧ Holds z L h2

theorem Holds.mono {z z' : Frag} (hz : z.le z') : ∀ {L : List Assn} {h h' : Frag}, h.le h' → Holds z L h → Holds z' L h'
  | [], _, _, _, _ => trivial
  | _ :: _, _, _, hh, ⟨h1, h2, z1, a, b, c, d, e, f⟩ => ⟨h1, h2, z1, a.trans hz, b, c.trans hh, d.trans hh, e, Holds.mono hz (Frag.le.refl _) f⟩

/-- The streams are as they were. -/
structure Sys (κ w : World) : Prop where
  os : w.os = κ.os
  tape : w.tape = κ.tape
  output : w.output = κ.output
theorem Sys.refl (κ : World) : Sys κ κ := ⟨rfl, rfl, rfl⟩

/-- The memory holds these assertions, each over memory of its own, apart from what is immutable. -/
def Sep (κ w : World) (L : List Assn) : Prop :=
  Sys κ w ∧ ∃ z h : Frag, z.disj h ∧ z.le (Frag.of w) ∧ h.le (Frag.of w) ∧ Holds z L h

def Ent (L L' : List Assn) : Prop := ∀ z h, Holds z L h → Holds z L' h
theorem Ent.refl (L : List Assn) : Ent L L := fun _ _ h => h
theorem Ent.trans {a b c : List Assn} (h : Ent a b) (h' : Ent b c) : Ent a c := fun z x y => h' z x (h z x y)
theorem Ent.frame {L L' : List Assn} (A : Assn) (h : Ent L L') : Ent (A :: L) (A :: L') :=
  fun z _ ⟨h1, h2, z1, a, b, c, d, e, f⟩ => ⟨h1, h2, z1, a, b, c, d, e, h z h2 f⟩
theorem Ent.swap (A B : Assn) (L : List Assn) : Ent (A :: B :: L) (B :: A :: L) := by
  rintro z h ⟨h1, h2, z1, a, b, c, d, e, ⟨h3, h4, z2, a', b', c', d', e', f⟩⟩
  have h13 : h1.disj h3 := b.mono (Frag.le.refl _) c'
  have h14 : h1.disj h4 := b.mono (Frag.le.refl _) d'
  refine ⟨h3, h1.un h4, z2, a', ?_, c'.trans d, Frag.un_le c (d'.trans d), e', h1, h4, z1, a, h14, Frag.le_un_left _ _, Frag.le_un_right h14, e, f⟩
  exact (Frag.un_disj h13 b'.symm).symm
theorem Ent.drop (A : Assn) (L : List Assn) : Ent (A :: L) L :=
  fun _ _ ⟨_, _, _, _, _, _, d, _, f⟩ => Holds.mono (Frag.le.refl _) d f
theorem Ent.nil (L : List Assn) : Ent L [] := fun _ _ _ => trivial

theorem Sep.ent {κ w : World} {L L' : List Assn} (h : Sep κ w L) (e : Ent L L') : Sep κ w L' :=
  let ⟨s, z, x, a, b, c, d⟩ := h; ⟨s, z, x, a, b, c, e z x d⟩

/-- A stands in L, and L1 is the rest. -/
def Pick (A : Assn) (L L1 : List Assn) : Prop := Ent L (A :: L1)
theorem Pick.here {A : Assn} {L : List Assn} : Pick A (A :: L) L := Ent.refl _
theorem Pick.there {A B : Assn} {L L1 : List Assn} (h : Pick A L L1) : Pick A (B :: L) (B :: L1) :=
  (Ent.frame B h).trans (Ent.swap B A L1)
theorem Ent.cons {A : Assn} {L L1 L' : List Assn} (h : Pick A L L1) (h' : Ent L1 L') : Ent L (A :: L') := h.trans (Ent.frame A h')

/-- What is immutable: it may be said as often as one likes. -/
def ro (R : Frag → Prop) : Assn := fun z _ => R z
theorem Pick.ro {R : Frag → Prop} : ∀ {L : List Assn}, ro R ∈ L → Pick (ro R) L L
  | B :: L, hm => by
    rcases List.mem_cons.1 hm with rfl | hm
    · rintro z h ⟨h1, h2, z1, a, b, c, d, e, f⟩
      exact ⟨Frag.emp, h, z1, a, Frag.emp_disj _, Frag.emp_le _, Frag.le.refl _, e, h1, h2, z1, a, b, c, d, e, f⟩
    · rintro z h ⟨h1, h2, z1, a, b, c, d, e, f⟩
      obtain ⟨h3, h4, z2, a', b', c', d', e', f'⟩ := Pick.ro hm z h2 f
      exact ⟨Frag.emp, h, z2, a', Frag.emp_disj _, Frag.emp_le _, Frag.le.refl _, e', h1, h2, z1, a, b, c, d, e, f⟩

/-- Into what is immutable. -/
theorem Sep.publish {κ w : World} {A : Assn} {L : List Assn} {R : Frag → Prop} (h : Sep κ w (A :: L)) (hR : ∀ z h z', A z h → z.le z' → h.le z' → R z') :
    Sep κ w (ro R :: L) := by
  obtain ⟨s, z, x, a, b, c, h1, h2, z1, e, f, g, i, j, k⟩ := h
  have hzd : z.disj h1 := a.mono (Frag.le.refl _) g
  refine ⟨s, z.un h1, h2, ?_, Frag.un_le b (g.trans c), i.trans c, Frag.emp, h2, z.un h1, Frag.le.refl _, Frag.emp_disj _, Frag.emp_le _, Frag.le.refl _, ?_, ?_⟩
  · exact Frag.un_disj (a.mono (Frag.le.refl _) i) f
  · exact hR z1 h1 _ j (e.trans (Frag.le_un_left _ _)) (Frag.le_un_right hzd)
  · exact Holds.mono (Frag.le_un_left _ _) (Frag.le.refl _) k

/-- What is immutable may be concluded from what is immutable. -/
theorem Ent.ro_ro {L : List Assn} {R R' : Frag → Prop} (h : ∀ z, R z → R' z) : Ent (ro R :: L) (ro R' :: L) :=
  fun _ _ ⟨h1, h2, z1, a, b, c, d, e, f⟩ => ⟨h1, h2, z1, a, b, c, d, h z1 e, f⟩

theorem Sep.get_ro {κ w : World} {L : List Assn} {R : Frag → Prop} (h : Sep κ w L) (hm : ro R ∈ L) : ∃ z : Frag, z.le (Frag.of w) ∧ R z := by
  obtain ⟨_, z, x, a, b, c, d⟩ := h
  obtain ⟨_, _, z1, e, _, _, _, f, _⟩ := Pick.ro hm z x d
  exact ⟨z1, e.trans b, f⟩

/- 2. BLOCKS -/

theorem Below_heap_alloc (w : World) (o : Obj) (k : Nat) (h : k < w.heap.size) : (w.alloc o).heap[k]? = w.heap[k]? := Go.RowKit.Below.heap_alloc w o k h


/-- Block b is a row of these cells; it is ours. -/
def Blk (b : Nat) (T : TypeId) (cs : List Value) : Assn := fun _ h => h b = some (.cells cs.toArray T (0, 0))

theorem Sep.blk {κ w : World} {b : Nat} {T : TypeId} {cs : List Value} {L L1 : List Assn} (h : Sep κ w L) (hp : Pick (Blk b T cs) L L1) :
    w.heap[b]? = some (.cells cs.toArray T (0, 0)) := by
  obtain ⟨_, z, x, a, bb, c, d⟩ := h
  obtain ⟨h1, _, _, _, _, g, _, i, _⟩ := hp z x d
  exact c b _ (g b _ i)

theorem Sep.drew {κ w : World} {L : List Assn} (h : Sep κ w L) (n : Nat) : Sep κ { w with drawn := n } L :=
  let ⟨s, z, x, r⟩ := h; ⟨⟨s.os, s.tape, s.output⟩, z, x, r⟩

/-- A new block, of whatever kind. -/
theorem Sep.new {κ w : World} {L : List Assn} {A : Assn} {o : Obj} (h : Sep κ w L) (hA : ∀ z, A z (Frag.one w.heap.size o)) : Sep κ (w.alloc o) (A :: L) := by
  obtain ⟨s, z, x, a, b, c, d⟩ := h
  have hlt : ∀ {f : Frag}, f.le (Frag.of w) → f w.heap.size = none := fun {f} hf => by
    cases e : f w.heap.size with
    | none => rfl
    | some o' => have := hf _ _ e; simp [Frag.of] at this
  have hup : ∀ {f : Frag}, f.le (Frag.of w) → f.le (Frag.of (w.alloc o)) := fun {f} hf k o' e => by
    have hk := hf k o' e
    simp only [Frag.of] at hk ⊢
    have hlt : k < w.heap.size := (Array.getElem?_eq_some_iff.1 hk).1
    rw [show (w.alloc o).heap[k]? = w.heap[k]? from Below_heap_alloc w o k hlt]; exact hk
  have hone : (Frag.one w.heap.size o).le (Frag.of (w.alloc o)) := fun k o' e => by
    simp only [Frag.one] at e
    split at e
    · rename_i hk; cases e; subst hk; exact heap_alloc_new w o
    · cases e
  have d1 : ∀ {f : Frag}, f.le (Frag.of w) → f.disj (Frag.one w.heap.size o) := fun {f} hf k => by
    by_cases hk : k = w.heap.size
    · left; subst hk; exact hlt hf
    · right; simp [Frag.one, hk]
  refine ⟨⟨s.os, s.tape, s.output⟩, z, x.un (Frag.one w.heap.size o), ?_, hup b, Frag.un_le (hup c) hone, Frag.one w.heap.size o, x, z, Frag.le.refl _, (d1 c).symm, Frag.le_un_right (d1 c), Frag.le_un_left _ _, hA z, d⟩
  exact (Frag.un_disj a.symm (d1 b).symm).symm

theorem Sep.alloc {κ w : World} {L : List Assn} {cs : List Value} {T : TypeId} (h : Sep κ w L) : Sep κ (w.alloc (.cells cs.toArray T)) (Blk w.heap.size T cs :: L) :=
  h.new (fun _ => by simp [Blk, Frag.one])

/-- A block that is ours is changed. -/
theorem Sep.change {κ w w' : World} {L L1 : List Assn} {A A' : Assn} {b : Nat} {o o' : Obj} (h : Sep κ w L) (hp : Pick A L L1)
    (hA : ∀ z h1, A z h1 → h1 b = some o ∧ ∀ h2 : Frag, h2 b = some o' → (∀ k, k ≠ b → h2 k = h1 k) → A' z h2)
    (hs : Sys w w') (hb : w'.heap[b]? = some o') (hk : ∀ k, k ≠ b → w'.heap[k]? = w.heap[k]?) : Sep κ w' (A' :: L1) := by
  obtain ⟨s, z, x, a, bb, c, d⟩ := h
  obtain ⟨h1, h2, z1, e, f, g, i, j, k⟩ := hp z x d
  obtain ⟨ho, hA'⟩ := hA z1 h1 j
  let h1' : Frag := fun k => if k = b then some o' else h1 k
  have hz : ∀ {y : Frag}, y.disj h1 → y b = none := fun {y} hy => by
    rcases hy b with hy | hy
    · exact hy
    · rw [ho] at hy; cases hy
  have hkeep : ∀ {y : Frag}, y b = none → y.le (Frag.of w) → y.le (Frag.of w') := fun {y} hy hle k' o'' e' => by
    have hne : k' ≠ b := fun e2 => by subst e2; rw [hy] at e'; cases e'
    simp only [Frag.of, hk k' hne]; exact hle k' o'' e'
  have hzd : z.disj h1 := a.mono (Frag.le.refl _) g
  have hd' : ∀ {y : Frag}, y b = none → y.disj h1 → y.disj h1' := fun {y} hy hyd k' => by
    by_cases e2 : k' = b
    · left; subst e2; exact hy
    · rcases hyd k' with hyd | hyd
      · exact .inl hyd
      · right; simp [h1', e2, hyd]
  have h2b : h2 b = none := hz f.symm
  have h1le : h1'.le (Frag.of w') := fun k' o'' e' => by
    simp only [h1'] at e'
    split at e'
    · rename_i e2; cases e'; subst e2; exact hb
    · rename_i e2; simp only [Frag.of, hk k' e2]; exact c k' _ (g k' _ e')
  have d12 : h1'.disj h2 := (hd' h2b f.symm).symm
  refine ⟨⟨hs.os.trans s.os, hs.tape.trans s.tape, hs.output.trans s.output⟩, z, h1'.un h2, ?_, hkeep (hz hzd) bb, Frag.un_le h1le (hkeep h2b (i.trans c)), h1', h2, z1, e, d12, Frag.le_un_left _ _, Frag.le_un_right d12, ?_, k⟩
  · exact (Frag.un_disj (hd' (hz hzd) hzd).symm (a.mono (Frag.le.refl _) i).symm).symm
  · exact hA' h1' (by simp [h1']) (fun k' hk' => by simp [h1', hk'])

theorem Sep.setCell {κ w : World} {L L1 : List Assn} {b i : Nat} {T : TypeId} {cs : List Value} (v : Value) (h : Sep κ w L) (hp : Pick (Blk b T cs) L L1) :
    Sep κ (w.setCell ⟨b, i, none⟩ v) (Blk b T (cs.set i v) :: L1) := by
  have hb := h.blk hp
  refine h.change (b := b) (o := .cells cs.toArray T (0, 0)) (o' := .cells (cs.set i v).toArray T (0, 0)) hp ?_ ⟨rfl, rfl, rfl⟩ ?_ ?_
  · intro z h1 hA
    exact ⟨hA, fun h2 hb' _ => hb'⟩
  · simp [World.setCell, Array.getElem?_modify, hb]
  · intro k hk
    simp only [World.setCell, Array.getElem?_modify]
    rw [if_neg (by simpa using fun e => hk e.symm)]

end Go.Wk

namespace Go.Wk

/- 1. THE FRAME's SLOTS -/

def look : List (Nat × Value) → Nat → Option Value
  | [], _ => none
  | (k, v) :: r, t => bif Nat.beq k t then some v else look r t

structure Env (n : Nat) (al : List (Nat × Value)) (a : Act) : Prop where
  defers : a.defers = []
  size : a.tmps.size = n
  get : ∀ t v, look al t = some v → a.tmps.getD t undef = v

def upd (al : List (Nat × Value)) (d : Option Tmp) (v : Value) : List (Nat × Value) := match d with | some d => (d, v) :: al | none => al
def fits (n : Nat) : Option Tmp → Bool | some d => Nat.blt d n | none => true

theorem look_cons (k : Nat) (v : Value) (r : List (Nat × Value)) (t : Nat) : look ((k, v) :: r) t = if k = t then some v else look r t := by
  simp only [look]
  by_cases h : k = t
  · subst h; simp
  · cases hb : Nat.beq k t with
    | true => exact absurd (Nat.eq_of_beq_eq_true hb) h
    | false => simp [h]

theorem Env.put {n : Nat} {al : List (Nat × Value)} {a : Act} {d : Option Tmp} (h : Env n al a) (v : Value) (hd : fits n d = true) : Env n (upd al d v) (a.put d v) := by
  cases d with
  | none => exact h
  | some d =>
    have hd' : d < n := by simpa [fits] using hd
    refine ⟨h.defers, by simp [Act.put, h.size], fun t u ht => ?_⟩
    simp only [upd, look_cons] at ht
    have hs := h.size
    by_cases e : d = t
    · subst e
      rw [if_pos rfl] at ht; cases ht
      simp [Act.put, Array.getD, hs, hd']
    · rw [if_neg e] at ht
      have := h.get t u ht
      simp only [Act.put]
      rw [← this]
      simp [Array.getD_eq_getD_getElem?, e]

def ev (al : List (Nat × Value)) : Operand → Option Value
  | .tmp t => look al t
  | .const v => some v
  | .global g => some (.pointer (some ⟨g, 0, none⟩))
  | .func f => some (.func (.func f) #[] #[])
theorem Env.ev {n : Nat} {al : List (Nat × Value)} {a : Act} (h : Env n al a) {x : Operand} {v : Value} (hx : Wk.ev al x = some v) : a.eval x = v := by
  cases x with
  | tmp t => exact h.get t v hx
  | _ => simpa [Wk.ev, Act.eval] using hx

/-- The first has no slot that the second has not. -/
def EnvLe (al al' : List (Nat × Value)) : Prop := ∀ t v, look al t = some v → look al' t = some v
theorem EnvLe.refl (al : List (Nat × Value)) : EnvLe al al := fun _ _ h => h
theorem EnvLe.nil (al : List (Nat × Value)) : EnvLe [] al := fun _ _ h => by cases h
theorem EnvLe.cons {t : Nat} {v : Value} {al al' : List (Nat × Value)} (h : look al' t = some v) (h' : EnvLe al al') : EnvLe ((t, v) :: al) al' := fun s u hs => by
  rw [look_cons] at hs
  split at hs
  · rename_i e; subst e; cases hs; exact h
  · exact h' s u hs
theorem Env.le {n : Nat} {al al' : List (Nat × Value)} {a : Act} (h : Env n al' a) (hl : EnvLe al al') : Env n al a := ⟨h.defers, h.size, fun t v ht => h.get t v (hl t v ht)⟩

/- 2. THE JUDGEMENTS -/

def fb (f : FuncId) : Frame := { (default : Frame) with fn := f, kind := .normal }

/-- From this frame on function f returns, and R holds of what it returns and of the world then. -/
def G (P : Program) (f : FuncId) (todo : List Item) (a : Act) (w : World) (R : Value → World → Prop) : Prop :=
  ∀ cs, ∃ v w' fr, R v w' ∧ Steps P (lone ((fb f).at a todo) cs w) (lone fr cs w') ∧ fr.fn = f ∧ fr.leaving P w' (.returned v)

theorem G.step {P : Program} {f : FuncId} {todo todo' : List Item} {a a' : Act} {w w' : World} {R : Value → World → Prop}
    (h : ∀ cs, step P (lone ((fb f).at a todo) cs w) = .next (lone ((fb f).at a' todo') cs w')) (h' : G P f todo' a' w' R) : G P f todo a w R :=
  fun cs => let ⟨v, w'', fr, r, s, x⟩ := h' cs; ⟨v, w'', fr, r, .head (h cs) s, x⟩

abbrev Post := Value → List Assn → Prop
def Post.at (κ : World) (K : Post) (v : Value) (w : World) : Prop := ∃ L, K v L ∧ Sep κ w L

def SG (P : Program) (f : FuncId) (n : Nat) (κ : World) (K : Post) (todo : List Item) (al : List (Nat × Value)) (L : List Assn) : Prop :=
  ∀ a w, Env n al a → Sep κ w L → G P f todo a w (K.at κ)

/-- A CONTRACT: called with these values in a memory that holds L the function returns, K holds of what it returns and of what memory holds then. -/
def Ctr (P : Program) (f : FuncId) (args : Array Value) (κ : World) (L : List Assn) (K : Post) : Prop :=
  ∀ w, Sep κ w L → Calls P f args w fun e w' => ∃ v, e = .returned v ∧ K.at κ v w'

theorem Ctr.mono {P : Program} {f : FuncId} {args : Array Value} {κ : World} {L L' : List Assn} {K K' : Post} (h : Ctr P f args κ L K) (hL : Ent L' L)
    (hK : ∀ v M, K v M → K' v M) : Ctr P f args κ L' K' :=
  fun w hw => Calls.mono (h w (hw.ent hL)) fun _ _ ⟨v, e, M, hM, hs⟩ => ⟨v, e, M, hK v M hM, hs⟩

section
variable {P : Program} {f : FuncId} {n : Nat} {κ : World} {K : Post} {k : List Item} {al al' : List (Nat × Value)} {L L' : List Assn}

theorem SG.weaken (h : SG P f n κ K k al L) (ha : EnvLe al al') (hL : Ent L' L) : SG P f n κ K k al' L' :=
  fun a w he hs => h a w (he.le ha) (hs.ent hL)

theorem SG.sep (h : (∀ w, Sep κ w L → Sep κ w L') ∧ SG P f n κ K k al L') : SG P f n κ K k al L := fun a w he hs => h.2 a w he (h.1 w hs)

theorem SG.skip (h : SG P f n κ K k al L) : SG P f n κ K (.code .skip :: k) al L := fun a w he hs => G.step (fun _ => step_skip) (h a w he hs)
theorem SG.label {l : Nat} (h : SG P f n κ K k al L) : SG P f n κ K (.code (.label l) :: k) al L := fun a w he hs => G.step (fun _ => step_label) (h a w he hs)
theorem SG.seq {x y : Code} (h : SG P f n κ K (.code x :: .code y :: k) al L) : SG P f n κ K (.code (.seq x y) :: k) al L := fun a w he hs => G.step (fun _ => step_seq) (h a w he hs)
theorem SG.block {id : Nat} {c : Code} (h : SG P f n κ K (.code c :: .inBlock id :: k) al L) : SG P f n κ K (.code (.block id c) :: k) al L := fun a w he hs => G.step (fun _ => step_block) (h a w he hs)
theorem SG.inBlock {id : Nat} (h : SG P f n κ K k al L) : SG P f n κ K (.inBlock id :: k) al L := fun a w he hs => G.step (fun _ => step_inBlock) (h a w he hs)
theorem SG.scope {c : Code} (h : SG P f n κ K (.code c :: .inScope c :: k) al L) : SG P f n κ K (.code (.scope c) :: k) al L := fun a w he hs => G.step (fun _ => step_scope) (h a w he hs)
theorem SG.inScope {c : Code} (h : SG P f n κ K k al L) : SG P f n κ K (.inScope c :: k) al L := fun a w he hs => G.step (fun _ => step_inScope) (h a w he hs)
theorem SG.exit {id : Nat} {k' : List Item} (hk : exitTo id k = some k') (h : SG P f n κ K k' al L) : SG P f n κ K (.code (.exit id) :: k) al L :=
  fun a w he hs => G.step (fun _ => step_exit hk) (h a w he hs)
theorem SG.inLoop {c : Code} (h : SG P f n κ K (.code c :: .inLoop c :: k) al L) : SG P f n κ K (.inLoop c :: k) al L := fun a w he hs => G.step (fun _ => step_inLoop) (h a w he hs)
theorem SG.cond {c : Operand} {x y : Code} {t : Bool} (hc : ev al c = some (.bool t)) (h1 : t = true → SG P f n κ K (.code x :: k) al L)
    (h2 : t = false → SG P f n κ K (.code y :: k) al L) : SG P f n κ K (.code (.cond c x y) :: k) al L := fun a w he hs => by
  refine G.step (a' := a) (w' := w) (todo' := .code (if t then x else y) :: k) (fun _ => step_cond (he.ev hc)) ?_
  cases t with
  | true => exact h1 rfl a w he hs
  | false => exact h2 rfl a w he hs
theorem SG.cond_true {c : Operand} {x y : Code} (hc : ev al c = some (.bool true)) (h1 : SG P f n κ K (.code x :: k) al L) : SG P f n κ K (.code (.cond c x y) :: k) al L :=
  SG.cond hc (fun _ => h1) (fun e => by cases e)
theorem SG.cond_false {c : Operand} {x y : Code} (hc : ev al c = some (.bool false)) (h1 : SG P f n κ K (.code y :: k) al L) : SG P f n κ K (.code (.cond c x y) :: k) al L :=
  SG.cond hc (fun e => by cases e) (fun _ => h1)

/-- A loop: i says what holds at a round's head; μ goes down. -/
theorem SG.loop {ι : Type} {c : Code} (I : ι → Prop) (ef : ι → List (Nat × Value)) (lf : ι → List Assn) (μ : ι → Nat) (i0 : ι) (h0 : I i0) (ha : EnvLe (ef i0) al) (hL : Ent L (lf i0))
    (round : ∀ i, I i → (∀ i', I i' → μ i' < μ i → SG P f n κ K (.inLoop c :: k) (ef i') (lf i')) → SG P f n κ K (.code c :: .inLoop c :: k) (ef i) (lf i)) :
    SG P f n κ K (.code (.loop c) :: k) al L := by
  have key : ∀ m i, μ i = m → I i → SG P f n κ K (.code c :: .inLoop c :: k) (ef i) (lf i) := by
    intro m
    induction m using Nat.strongRecOn with
    | ind m ih => exact fun i hm hi => round i hi fun i' hi' hlt => SG.inLoop (ih (μ i') (hm ▸ hlt) i' rfl hi')
  exact fun a w he hs => G.step (fun _ => step_loop) (key _ i0 rfl h0 a w (he.le ha) (hs.ent hL))

/-- The end. -/
def ReturnsOf (P : Program) (f : FuncId) (n : Nat) (κ : World) (al : List (Nat × Value)) (L : List Assn) (v : Value) : Prop :=
  ∃ fn, P.funcs[f]? = some fn ∧ ∀ a w, Env n al a → Sep κ w L → (results fn a.tmps).run P w = .ok v w
theorem SG.ret {v : Value} (h : ReturnsOf P f n κ al L v) (hK : K v L) : SG P f n κ K (.code .ret :: k) al L := by
  intro a w he hs cs
  obtain ⟨fn, hf, hr⟩ := h
  exact ⟨v, w, _, ⟨L, hK, hs⟩, .one step_ret, rfl, rfl, he.defers, rfl, fn, hf, hr a w he hs⟩
theorem SG.done {v : Value} (h : ReturnsOf P f n κ al L v) (hK : K v L) : SG P f n κ K [] al L := by
  intro a w he hs cs
  obtain ⟨fn, hf, hr⟩ := h
  exact ⟨v, w, _, ⟨L, hK, hs⟩, .one step_end, rfl, rfl, he.defers, rfl, fn, hf, hr a w he hs⟩

theorem Ctr.intro {fn : Func} {c : Code} {args : Array Value} (hf : P.funcs[f]? = some fn) (hb : fn.body = some c) (al : List (Nat × Value))
    (hal : Env (args.size + (fn.ntmps - args.size)) al { tmps := args ++ Array.replicate (fn.ntmps - args.size) undef, defers := [] })
    (h : SG P f (args.size + (fn.ntmps - args.size)) κ K [.code c] al L) : Ctr P f args κ L K := by
  intro w hw cs
  have henter : Frame.enter P f args .normal = (fb f).at { tmps := args ++ Array.replicate (fn.ntmps - args.size) undef, defers := [] } [.code c] := by
    simp [Frame.enter, Frame.at, hf, hb, fb]
  obtain ⟨v, w', fr, hR, hs, hfn, hl⟩ := h _ w hal hw cs
  rw [← henter] at hs
  exact ⟨.returned v, w', fr, ⟨v, rfl, hR⟩, hs, hfn, hl⟩

/-- The slots at the beginning: the parameters. -/
theorem Env.enter {args : Array Value} {m : Nat} {al : List (Nat × Value)} (h : ∀ t v, look al t = some v → args[t]? = some v) :
    Env (args.size + m) al { tmps := args ++ Array.replicate m undef, defers := [] } := by
  refine ⟨rfl, by simp, fun t v ht => ?_⟩
  have := h t v ht
  rw [Array.getD_eq_getD_getElem?, Array.getElem?_append_left (Array.getElem?_eq_some_iff.1 this).1, this]
  rfl

/- 3. REGIONS -/

def RL (P : Program) (f : FuncId) (n : Nat) (κ : World) (K : Post) (k : List Item) (ops : Array Oper) (rest : List Oper) (al : List (Nat × Value)) (L : List Assn) : Prop :=
  ∀ a w, Env n al a → Sep κ w L → wpList P ops (fun e a' w' => e = .normal ∧ G P f k a' w' (K.at κ)) rest a w

theorem G.of_region {id : Nat} {ops : Array Oper} {d : Bool} {a : Act} {w : World} {R : Value → World → Prop}
    (h : (Code.region id ops d).wp P (fun e a' w' => e = .normal ∧ G P f k a' w' R) a w) : G P f (.code (.region id ops d) :: k) a w R := by
  intro cs
  obtain ⟨e, a', w', ⟨he, hg⟩, harr⟩ := h (fb f) k cs
  subst he
  obtain ⟨v, w'', fr, r, s, x⟩ := hg cs
  exact ⟨v, w'', fr, r, Steps.trans harr s, x⟩

theorem SG.region {id : Nat} {ops : List Oper} (h : RL P f n κ K k ops.toArray ops al L) : SG P f n κ K (.code (.region id ops.toArray false) :: k) al L :=
  fun a w he hs => G.of_region (wp_region_lit (h a w he hs))

variable {ops : Array Oper} {o : Oper} {rest : List Oper} {v : Value}

theorem RL.nil (h : SG P f n κ K k al L) : RL P f n κ K k ops [] al L := fun a w he hs => ⟨rfl, h a w he hs⟩

theorem RL.sep (h : (∀ w, Sep κ w L → Sep κ w L') ∧ RL P f n κ K k ops rest al L') : RL P f n κ K k ops rest al L := fun a w he hs => h.2 a w he (h.1 w hs)
theorem RL.weaken (h : RL P f n κ K k ops rest al L) (ha : EnvLe al al') (hL : Ent L' L) : RL P f n κ K k ops rest al' L' :=
  fun a w he hs => h a w (he.le ha) (hs.ent hL)

/-- The operation is carried out: it has no guard, or its guard says so. -/
def Wanted (n : Nat) (ops : Array Oper) (o : Oper) (al : List (Nat × Value)) (b : Bool) : Prop := ∀ a, Env n al a → Region.wanted o (yielded ops a.tmps) = b
theorem Wanted.free (h : o.guard = none) : Wanted n ops o al true := fun _ _ => by simp [Region.wanted, h]
theorem Wanted.by {j d : Nat} {x y : Bool} (h : o.guard = some (j, x)) (hd : (ops[j]?).bind (·.dst) = some d) (hn : Nat.blt d n = true) (hl : look al d = some (.bool y)) : Wanted n ops o al (y == x) := by
  intro a he
  have hlt : d < n := by simpa using hn
  have h2 := he.get d _ hl
  have h3 : a.tmps[d]? = some (.bool y) := by
    rw [Array.getD_eq_getD_getElem?] at h2
    cases e : a.tmps[d]? with
    | none => rw [Array.getElem?_eq_none_iff] at e; have := he.size; omega
    | some u => rw [e] at h2; simpa using h2
  simp only [Region.wanted, h, yielded, hd, Option.bind_some, h3]
  cases x <;> cases y <;> rfl

/-- It yields v and does nothing else. -/
def OpV (P : Program) (n : Nat) (κ : World) (al : List (Nat × Value)) (L : List Assn) (o : Oper) (v : Value) : Prop :=
  ∀ a w, Env n al a → Sep κ w L → (execOp a.eval o).run P w = .ok (.value v) w
/-- It yields a v and comes to memory that holds M, for which K holds. -/
def OpE (P : Program) (n : Nat) (κ : World) (al : List (Nat × Value)) (L : List Assn) (o : Oper) (K : Post) : Prop :=
  ∀ a w, Env n al a → Sep κ w L → o.wp P a w (fun a' w' => ∃ v, a' = a.put o.dst v ∧ K.at κ v w') (fun _ _ _ => False)

theorem Oper.wp_imp {o : Oper} {a : Act} {w : World} {K K' : Act → World → Prop} {Q Q' : Exit → Act → World → Prop} (h : ∀ a w, K a w → K' a w) (hQ : ∀ e a w, Q e a w → Q' e a w)
    (hh : o.wp P a w K Q) : o.wp P a w K' Q' := by
  unfold Oper.wp at *
  generalize (execOp a.eval o).run P w = r at *
  cases r with
  | ok m w' =>
    cases m <;> simp only [Oper.upon] at hh ⊢ <;>
      first
        | exact h _ _ hh
        | exact Calls.mono hh (fun e w'' he => by cases e <;> first | exact h _ _ he | exact hQ _ _ _ he | (obtain ⟨a0, w0, q⟩ := he; exact ⟨a0, w0, hQ _ _ _ q⟩))
        | exact Rows.mono hh (fun _ _ he => h _ _ he)
  | halt x w' => cases x <;> simp only [Oper.upon] at hh ⊢ <;> first | exact hQ _ _ _ hh | exact hh

theorem RL.val (hw : Wanted n ops o al true) (hv : OpV P n κ al L o v) (hd : fits n o.dst = true) (h : RL P f n κ K k ops rest (upd al o.dst v) L) : RL P f n κ K k ops (o :: rest) al L := by
  intro a w he hs
  refine wpList_step fun K' hK' => ?_
  rw [if_pos (hw a he)]
  simp only [Oper.wp, hv a w he hs, Oper.upon]
  exact hK' _ _ (h _ w (he.put v hd) hs)

theorem RL.eff {K' : Post} (hw : Wanted n ops o al true) (hv : OpE P n κ al L o K') (hd : fits n o.dst = true) (h : ∀ v L', K' v L' → RL P f n κ K k ops rest (upd al o.dst v) L') :
    RL P f n κ K k ops (o :: rest) al L := by
  intro a w he hs
  refine wpList_step fun K'' hK'' => ?_
  rw [if_pos (hw a he)]
  refine Oper.wp_imp ?_ (fun _ _ _ q => q.elim) (hv a w he hs)
  rintro a' w' ⟨v, rfl, M, hM, hs'⟩
  exact hK'' _ _ (h v M hM _ w' (he.put v hd) hs')

theorem RL.skip (hw : Wanted n ops o al false) (hd : fits n o.dst = true) (h : RL P f n κ K k ops rest (upd al o.dst undef) L) : RL P f n κ K k ops (o :: rest) al L := by
  intro a w he hs
  refine wpList_step fun K' hK' => ?_
  rw [if_neg (by simp [hw a he])]
  exact hK' _ _ (h _ w (he.put undef hd) hs)

/- 4. REGIONS THAT DRAW THEIR ORDER -/

section
variable {ops : Array Oper} {Q : Exit → Act → World → Prop} {md : Region.Mode} {S0 S : World → Prop} {x : Nat}
/-- The condition S stands until x has come up. -/
def Need (S : World → Prop) (x : Nat) (listed : Array Bool) (w : World) : Prop := listed.getD x false = true ∨ S w
/-- Like the kit's rule with a condition on the world; but behind operation x it need not hold: x is one that waits for those that read. -/
def wpAnyX (P : Program) (md : Region.Mode) (ops : Array Oper) (Q : Exit → Act → World → Prop) (S0 S : World → Prop) (x : Nat) : Nat → Array Bool → Act → World → Prop
  | 0, listed, a, w => Region.ready md ops listed = [] ∧ Q .normal a w
  | fuel + 1, listed, a, w =>
    (Region.ready md ops listed = [] → Q .normal a w) ∧
    ∀ i ∈ Region.ready md ops listed, wpOp P ops Q i (fun a' w' => (S0 w' ∧ Need S x (listed.setIfInBounds i true) w') ∧ wpAnyX P md ops Q S0 S x fuel (listed.setIfInBounds i true) a' w') a w
theorem wpAny_of_X : ∀ (fuel : Nat) (listed : Array Bool) (a : Act) (w : World), wpAnyX P md ops Q S0 S x fuel listed a w → wpAny P md ops Q fuel listed a w
  | 0, _, _, _, h => h
  | fuel + 1, _, _, _, h => ⟨h.1, fun i hi => wpOp_mono (fun a' w' h' => wpAny_of_X fuel _ a' w' h'.2) (h.2 i hi)⟩
/-- x waits for i. -/
def waits (md : Region.Mode) (ops : Array Oper) (x i : Nat) : Bool := match ops[x]? with
  | none => true
  | some o => o.after.any fun e => Region.binds md e && e.on == i
theorem waits_spec {i : Nat} (h : waits md ops x i = true) {ox : Oper} (hx : ops[x]? = some ox) : ∃ e ∈ ox.after, Region.binds md e = true ∧ e.on = i := by
  unfold waits at h
  rw [hx] at h
  obtain ⟨e, he, hb⟩ := Array.any_eq_true'.1 h
  simp only [Bool.and_eq_true, beq_iff_eq] at hb
  exact ⟨e, he, hb⟩
theorem wpAnyX_first (m : Bool) {i : Nat} {oi : Oper} {v : Value} (hi : ops[i]? = some oi) (hsel : ∀ (j : Nat) (o : Oper) cs b, ops[j]? = some o → o.op ≠ .select cs b)
    (hQ : ∀ c a w, Q (.panic c) (a.put oi.dst v) w → Q (.panic c) a w) (hix : i ≠ x) (hw : m = true → waits md ops x i = true) :
    ∀ (fuel : Nat) (listed : Array Bool) (a : Act) (w : World), (m = true → listed.getD x false = false) →
      (∀ j oj, ops[j]? = some oj → j ≠ i → listed.getD j true = false → (∀ e ∈ oj.after, Region.binds md e = true → e.on ≠ i) → oi.apart ops oj = true) →
      i ∈ Region.ready md ops listed → YieldsIf P ops (if m then S else S0) oi v a → S0 w ∧ Need S x listed w →
      wpAnyX P md ops Q S0 S x fuel (listed.setIfInBounds i true) (a.put oi.dst v) w → wpAnyX P md ops Q S0 S x (fuel + 1) listed a w := by
  have hT : ∀ (listed : Array Bool) (w : World), (m = true → listed.getD x false = false) → S0 w ∧ Need S x listed w → (if m then S else S0) w := by
    intro listed w hl hS
    cases m with
    | false => exact hS.1
    | true => rcases hS.2 with h | h
              · rw [hl rfl] at h; cases h
              · exact h
  have hN : ∀ (listed : Array Bool) (w : World), S0 w ∧ Need S x listed w → S0 w ∧ Need S x (listed.setIfInBounds i true) w := fun listed w hS =>
    ⟨hS.1, hS.2.imp (fun h => by rw [getD_set_ne false hix]; exact h) id⟩
  intro fuel
  induction fuel with
  | zero =>
    intro listed a w hlx _ hr hy hS H
    refine ⟨fun h => (by rw [h] at hr; cases hr), fun j hj => ?_⟩
    by_cases hji : j = i
    · subst hji; exact hy.wpOp hi (hT listed w hlx hS) ⟨hN listed w hS, H⟩
    · have := ready_mono hj hji
      rw [H.1] at this
      cases this
  | succ fuel ih =>
    intro listed a w hlx hfree hr hy hS H
    refine ⟨fun h => (by rw [h] at hr; cases hr), fun j hj => ?_⟩
    by_cases hji : j = i
    · subst hji; exact hy.wpOp hi (hT listed w hlx hS) ⟨hN listed w hS, H⟩
    · have h1 := H.2 j (ready_mono hj hji)
      obtain ⟨hjun, oj, hoj, hall⟩ := mem_ready.1 hj
      have hnot : ∀ e ∈ oj.after, Region.binds md e = true → e.on ≠ i := fun e he hb heq => by
        have h1 := hall e he hb
        have h0 := (mem_ready.1 hr).1
        rw [heq] at h1
        rcases Nat.lt_or_ge i listed.size with h' | h'
        · simp [h'] at h0 h1; rw [h0] at h1; cases h1
        · simp [Array.getElem?_eq_none h'] at h1
      have h2 := wpOp_putIf hoj (hfree j oj hoj hji hjun hnot) (fun cs b => hsel i oi cs b hi) (fun cs b => hsel j oj cs b hoj) hQ hy h1
      have hfree' : ∀ k ok, ops[k]? = some ok → k ≠ i → (listed.setIfInBounds j true).getD k true = false →
          (∀ e ∈ ok.after, Region.binds md e = true → e.on ≠ i) → oi.apart ops ok = true := fun k ok hk hki hun hno => by
        refine hfree k ok hk hki ?_ hno
        by_cases hjk : j = k
        · subst hjk; exact hjun
        · rw [getD_set_ne true hjk] at hun; exact hun
      have hjx : m = true → j ≠ x := fun hm e => by
        subst e
        obtain ⟨e, he, hb, heq⟩ := waits_spec (hw hm) hoj
        exact hnot e he hb heq
      have hcomm : (listed.setIfInBounds i true).setIfInBounds j true = (listed.setIfInBounds j true).setIfInBounds i true := (Array.setIfInBounds_comm _ _ hji).symm
      refine wpOp_mono (fun a' w' h3 => ?_) h2
      obtain ⟨hy', hS', hX'⟩ := h3
      have hS2 : S0 w' ∧ Need S x (listed.setIfInBounds j true) w' := ⟨hS'.1, hS'.2.imp (fun q => by rw [hcomm, getD_set_ne false hix] at q; exact q) id⟩
      refine ⟨hS2, ih (listed.setIfInBounds j true) a' w' (fun hm => by rw [getD_set_ne false (hjx hm)]; exact hlx hm) hfree' (ready_mono hr (Ne.symm hji)) hy' hS2 ?_⟩
      rw [← hcomm]; exact hX'
end

/-- 'listed': what has come up. L0: what holds throughout, until x has come up. -/
def RH (P : Program) (f : FuncId) (n : Nat) (κ : World) (K : Post) (k : List Item) (ops : Array Oper) (L0 : List Assn) (x fuel : Nat) (listed : Array Bool) (al : List (Nat × Value)) (L : List Assn) : Prop :=
  ∀ a w, Env n al a → Sep κ w L → (Need (fun w => Sep κ w L0) x listed w) → wpAnyX P .any ops (fun e a' w' => e = .normal ∧ G P f k a' w' (K.at κ)) (fun w => Sep κ w []) (fun w => Sep κ w L0) x fuel listed a w

theorem SG.draw {id : Nat} (L0 : List Assn) (x : Nat) (hm : P.follows .mixedOrders = true) (hL : Ent L L0) (h : RH P f n κ K k ops L0 x ops.size (Array.replicate ops.size false) al L) :
    SG P f n κ K (.code (.region id ops true) :: k) al L :=
  fun a _ he hs => G.of_region (wp_region_any hm (wpAny_of_X _ _ _ _ (h a _ he (hs.drew _) (.inr ((hs.drew _).ent hL)))))

variable {L0 : List Assn} {x fuel i : Nat} {listed : Array Bool}

theorem RH.done (hr : Region.ready .any ops listed = []) (h : SG P f n κ K k al L) : RH P f n κ K k ops L0 x fuel listed al L :=
  fun a w he hs _ => by
    cases fuel with
    | zero => exact ⟨hr, rfl, h a w he hs⟩
    | succ fuel => exact ⟨fun _ => ⟨rfl, h a w he hs⟩, by rw [hr]; simp⟩

theorem RH.val (i : Nat) (hi : ops[i]? = some o) (hs : Region.noSelect ops = true) (hf : Region.free .any ops listed i = true) (hr : (Region.ready .any ops listed).contains i = true)
    (hx : (waits .any ops x i && !listed.getD x false && !(Nat.beq i x)) = true)
    (hw : Wanted n ops o al true) (hv : OpV P n κ al L0 o v) (hd : fits n o.dst = true)
    (h : RH P f n κ K k ops L0 x fuel (listed.setIfInBounds i true) (upd al o.dst v) L) : RH P f n κ K k ops L0 x (fuel + 1) listed al L :=
  fun a w he hsep hneed => by
    simp only [Bool.and_eq_true, Bool.not_eq_true'] at hx
    have hix : i ≠ x := fun e => by have := hx.2; rw [e] at this; simp at this
    refine wpAnyX_first true hi (Region.noSelect_spec hs) (fun _ _ _ q => by cases q.1) hix (fun _ => hx.1.1) fuel listed a w (fun _ => hx.1.2) (Region.free_spec hi hf) (by simpa using hr) (.inl ⟨hw a he, fun w' hw' => hv a w' he (by simpa using hw')⟩) ⟨hsep.ent (Ent.nil _), hneed⟩ (h _ w (he.put v hd) hsep ?_)
    rcases hneed with q | q
    · rw [hx.1.2] at q; cases q
    · exact .inr q

/-- One that does not look at memory. -/
theorem RH.pure (i : Nat) (hi : ops[i]? = some o) (hs : Region.noSelect ops = true) (hf : Region.free .any ops listed i = true) (hr : (Region.ready .any ops listed).contains i = true)
    (hx : Nat.beq i x = false)
    (hw : Wanted n ops o al true) (hv : OpV P n κ al [] o v) (hd : fits n o.dst = true)
    (h : RH P f n κ K k ops L0 x fuel (listed.setIfInBounds i true) (upd al o.dst v) L) : RH P f n κ K k ops L0 x (fuel + 1) listed al L :=
  fun a w he hsep hneed => by
    have hix : i ≠ x := fun e => by rw [e] at hx; simp at hx
    exact wpAnyX_first false hi (Region.noSelect_spec hs) (fun _ _ _ q => by cases q.1) hix (fun h => by cases h) fuel listed a w (fun h => by cases h) (Region.free_spec hi hf) (by simpa using hr) (.inl ⟨hw a he, fun w' hw' => hv a w' he (by simpa using hw')⟩) ⟨hsep.ent (Ent.nil _), hneed⟩
      (h _ w (he.put v hd) hsep (hneed.imp (fun q => by rw [getD_set_ne false hix]; exact q) id))

theorem RH.skip (i : Nat) (hi : ops[i]? = some o) (hs : Region.noSelect ops = true) (hf : Region.free .any ops listed i = true) (hr : (Region.ready .any ops listed).contains i = true)
    (hx : Nat.beq i x = false)
    (hw : Wanted n ops o al false) (hd : fits n o.dst = true)
    (h : RH P f n κ K k ops L0 x fuel (listed.setIfInBounds i true) (upd al o.dst undef) L) : RH P f n κ K k ops L0 x (fuel + 1) listed al L :=
  fun a w he hsep hneed => by
    have hix : i ≠ x := fun e => by rw [e] at hx; simp at hx
    exact wpAnyX_first false hi (Region.noSelect_spec hs) (fun _ _ _ q => by cases q.1) hix (fun h => by cases h) fuel listed a w (fun h => by cases h) (Region.free_spec hi hf) (by simpa using hr) (.inr ⟨hw a he, rfl⟩) ⟨hsep.ent (Ent.nil _), hneed⟩
      (h _ w (he.put undef hd) hsep (hneed.imp (fun q => by rw [getD_set_ne false hix]; exact q) id))

/-- One that has its effect on memory, i, may come up next: what is to be shown of it. -/
def RHone (P : Program) (f : FuncId) (n : Nat) (κ : World) (K : Post) (k : List Item) (ops : Array Oper) (L0 : List Assn) (x fuel : Nat) (listed : Array Bool) (al : List (Nat × Value)) (L : List Assn) (i : Nat) : Prop :=
  ∀ a w, Env n al a → Sep κ w L → wpOp P ops (fun e a' w' => e = .normal ∧ G P f k a' w' (K.at κ)) i
    (fun a' w' => (Sep κ w' [] ∧ Need (fun w => Sep κ w L0) x (listed.setIfInBounds i true) w') ∧ wpAnyX P .any ops (fun e a' w' => e = .normal ∧ G P f k a' w' (K.at κ)) (fun w => Sep κ w []) (fun w => Sep κ w L0) x fuel (listed.setIfInBounds i true) a' w') a w

theorem RHone.eff {K' : Post} (hi : ops[i]? = some o) (hw : Wanted n ops o al true) (hv : OpE P n κ al L o K') (hd : fits n o.dst = true)
    (h : ∀ v L', K' v L' → ((listed.setIfInBounds i true).getD x false = true ∨ Ent L' L0) ∧ RH P f n κ K k ops L0 x fuel (listed.setIfInBounds i true) (upd al o.dst v) L') : RHone P f n κ K k ops L0 x fuel listed al L i := by
  intro a w he hs
  unfold wpOp
  simp only [hi, hw a he, if_true]
  refine .inl (Oper.wp_imp ?_ (fun _ _ _ q => q.elim) (hv a w he hs))
  rintro _ w' ⟨v, rfl, M, hM, hs'⟩
  obtain ⟨h1, h2⟩ := h v M hM
  have hneed : Need (fun w => Sep κ w L0) x (listed.setIfInBounds i true) w' := h1.imp id (fun q => hs'.ent q)
  exact ⟨⟨hs'.ent (Ent.nil _), hneed⟩, h2 _ w' (he.put v hd) hs' hneed⟩

theorem RH.alls {rs : List Nat} (hr : Region.ready .any ops listed = rs) (hne : rs ≠ []) (h : ∀ i ∈ rs, RHone P f n κ K k ops L0 x fuel listed al L i) : RH P f n κ K k ops L0 x (fuel + 1) listed al L :=
  fun a w he hs _ => ⟨fun h0 => absurd (hr ▸ h0) hne, fun j hj => h j (hr ▸ hj) a w he hs⟩
theorem RH.one (hr : Region.ready .any ops listed = [i]) (h : RHone P f n κ K k ops L0 x fuel listed al L i) : RH P f n κ K k ops L0 x (fuel + 1) listed al L :=
  RH.alls hr (by simp) fun j hj => by rw [List.mem_singleton] at hj; subst hj; exact h
theorem RH.two {i j : Nat} (hr : Region.ready .any ops listed = [i, j]) (h : RHone P f n κ K k ops L0 x fuel listed al L i) (h' : RHone P f n κ K k ops L0 x fuel listed al L j) :
    RH P f n κ K k ops L0 x (fuel + 1) listed al L :=
  RH.alls hr (by simp) fun m hm => by
    rcases List.mem_cons.1 hm with rfl | hm
    · exact h
    · rw [List.mem_singleton] at hm; subst hm; exact h'
theorem RH.three {i j l : Nat} (hr : Region.ready .any ops listed = [i, j, l]) (h : RHone P f n κ K k ops L0 x fuel listed al L i) (h' : RHone P f n κ K k ops L0 x fuel listed al L j)
    (h'' : RHone P f n κ K k ops L0 x fuel listed al L l) : RH P f n κ K k ops L0 x (fuel + 1) listed al L :=
  RH.alls hr (by simp) fun m hm => by
    rcases List.mem_cons.1 hm with rfl | hm
    · exact h
    · rcases List.mem_cons.1 hm with rfl | hm
      · exact h'
      · rw [List.mem_singleton] at hm; subst hm; exact h''
end
end Go.Wk

namespace Go.Wk

/- 1. VALUES -/
@[reducible] def vI (x : Int) : Value := .int .i64 x
@[reducible] def vB (b : Bool) : Value := .bool b
@[reducible] def v8 (x : UInt8) : Value := .int .u8 (x.toNat : Int)
@[reducible] def v32 (x : UInt32) : Value := .int .u32 (x.toNat : Int)
@[reducible] def v64 (x : UInt64) : Value := .int .u64 (x.toNat : Int)
@[reducible] def vS (l : List UInt8) : Value := .string ⟨⟨l⟩⟩
@[reducible] def ptr (b o : Nat) : Value := .pointer (some ⟨b, o, none⟩)

/- 2. WHAT THE PROGRAM'S TABLES SAY (closed facts) -/
def FieldOff (P : Program) (s f off : Nat) : Prop := ∃ fs fd i, P.underlying s = some (.struct fs) ∧ fs[f]? = some fd ∧ P.info? fd.type = some i ∧ i.size ≠ 0 ∧ fd.offset = off
def fieldOffB (P : Program) (s f off : Nat) : Bool := match P.underlying s with
  | some (.struct fs) => match fs[f]? with
    | some fd => match P.info? fd.type with
      | some i => i.size != 0 && fd.offset == off
      | none => false
    | none => false
  | _ => false
theorem fieldOff_of {P : Program} {s f off : Nat} (h : fieldOffB P s f off = true) : FieldOff P s f off := by
  unfold fieldOffB at h
  split at h
  · rename_i fs h1
    split at h
    · rename_i fd h2
      split at h
      · rename_i i h3
        simp only [Bool.and_eq_true, bne_iff_ne, beq_iff_eq] at h
        exact ⟨fs, fd, i, h1, h2, h3, h.1, h.2⟩
      · cases h
    · cases h
  · cases h

/-- A variable of type T is one cell. -/
def One (P : Program) (T : TypeId) : Prop := ∃ d i, P.underlying T = some d ∧ (match d with | .struct _ | .array _ _ => false | _ => true) = true ∧ P.info? T = some i ∧ i.size = 1
def oneB (P : Program) (T : TypeId) : Bool := match P.underlying T with
  | some d => (match d with | .struct _ | .array _ _ => false | _ => true) && (match P.info? T with | some i => i.size == 1 | none => false)
  | none => false
theorem one_of {P : Program} {T : TypeId} (h : oneB P T = true) : One P T := by
  unfold oneB at h
  split at h
  · rename_i d h1
    simp only [Bool.and_eq_true] at h
    obtain ⟨h2, h3⟩ := h
    split at h3
    · rename_i i h4
      exact ⟨d, i, h1, h2, h4, by simpa using h3⟩
    · cases h3
  · cases h
/-- A variable of type T is a row of m cells (a struct, an array). -/
def Agg (P : Program) (T : TypeId) (m : Nat) : Prop := ∃ d i, P.underlying T = some d ∧ (match d with | .struct _ | .array _ _ => true | _ => false) = true ∧ P.info? T = some i ∧ i.size = m
def aggB (P : Program) (T : TypeId) (m : Nat) : Bool := match P.underlying T with
  | some d => (match d with | .struct _ | .array _ _ => true | _ => false) && (match P.info? T with | some i => i.size == m | none => false)
  | none => false
theorem agg_of {P : Program} {T : TypeId} {m : Nat} (h : aggB P T m = true) : Agg P T m := by
  unfold aggB at h
  split at h
  · rename_i d h1
    simp only [Bool.and_eq_true] at h
    obtain ⟨h2, h3⟩ := h
    split at h3
    · rename_i i h4
      exact ⟨d, i, h1, h2, h4, by simpa using h3⟩
    · cases h3
  · cases h
/-- The zero of type T, as cells. -/
def Zero (P : Program) (T : TypeId) (zs : List Value) : Prop := ∃ i z, P.info? T = some i ∧ i.zero = some z ∧ z.cells = zs.toArray

section
variable {P : Program} {n : Nat} {κ : World} {al : List (Nat × Value)} {L : List Assn} {o : Oper} {v : Value}

/-- It yields v whatever the memory. -/
theorem V.of_run (h : ∀ a w, Env n al a → (execOp a.eval o).run P w = .ok (.value v) w) : OpV P n κ al L o v := fun a w he _ => h a w he

/- 3. SLOTS -/
theorem V.move {x : Operand} (ho : o.op = .move x) (hx : ev al x = some v) : OpV P n κ al L o v := V.of_run fun a w he => by
  simp [execOp, ho, he.ev hx]
theorem V.assign {x : Operand} (ho : o.op = .assign x) (hx : ev al x = some v) : OpV P n κ al L o v := V.of_run fun a w he => by
  simp [execOp, ho, he.ev hx]
theorem V.pick {c x y : Operand} {t : Bool} {u u' : Value} (ho : o.op = .pick c x y) (hc : ev al c = some (.bool t)) (hx : ev al x = some u) (hy : ev al y = some u') : OpV P n κ al L o (if t then u else u') := V.of_run fun a w he => by
  simp [execOp, ho, he.ev hc, he.ev hx, he.ev hy, asBool]
theorem V.pick_true {c x y : Operand} {u : Value} (ho : o.op = .pick c x y) (hc : ev al c = some (.bool true)) (hx : ev al x = some u) : OpV P n κ al L o u := V.of_run fun a w he => by
  simp [execOp, ho, he.ev hc, he.ev hx, asBool]
theorem V.pick_false {c x y : Operand} {u : Value} (ho : o.op = .pick c x y) (hc : ev al c = some (.bool false)) (hy : ev al y = some u) : OpV P n κ al L o u := V.of_run fun a w he => by
  simp [execOp, ho, he.ev hc, he.ev hy, asBool]
theorem V.extract {x : Operand} {i : Nat} {vs : Array Value} {u : Value} (ho : o.op = .extract x i) (hx : ev al x = some (.tuple vs)) (hu : vs[i]? = some u) : OpV P n κ al L o u := V.of_run fun a w he => by
  simp [execOp, ho, he.ev hx, Instr.extract, hu]
theorem V.nilCheck {x : Operand} {a0 : Addr} (ho : o.op = .nilCheck x) (hx : ev al x = some (.pointer (some a0))) : OpV P n κ al L o (.pointer (some a0)) := V.of_run fun a w he => by
  simp [execOp, ho, he.ev hx]
theorem V.not {T : TypeId} {x : Operand} {b : Bool} (ho : o.op = .unOp .not T x) (hx : ev al x = some (.bool b)) : OpV P n κ al L o (.bool (!b)) := V.of_run fun a w he => by
  simp [execOp, ho, he.ev hx, Op.unary]

/- 4. NUMBERS -/
/-- This operator yields v on x and y. -/
def BinRun (P : Program) (op : BinOp) (x y v : Value) : Prop := ∀ T w, (binOp op T x y).run P w = .ok v w ∧ ∀ a b, (eqGuard op T a b x y).run P w = .ok () w
theorem V.bin {op : BinOp} {T T' : TypeId} {x y : Operand} {u u' : Value} (ho : o.op = .binOp op T x y T') (hx : ev al x = some u) (hy : ev al y = some u') (hr : BinRun P op u u' v) : OpV P n κ al L o v := V.of_run fun a w he => by
  obtain ⟨h1, h2⟩ := hr T w
  simp [execOp, ho, he.ev hx, he.ev hy, h1, h2]

theorem beq_dec {α : Type} [BEq α] [LawfulBEq α] [DecidableEq α] (x y : α) : (x == y) = decide (x = y) := by by_cases h : x = y <;> simp [h]

theorem eqGuard_int (op : BinOp) (T : TypeId) (x y : Operand) (k k' : IntKind) (m m' : Int) (w : World) : (eqGuard op T x y (.int k m) (.int k' m')).run P w = .ok () w := by
  unfold eqGuard; split <;> simp
theorem eqGuard_bool (op : BinOp) (T : TypeId) (x y : Operand) (m m' : Bool) (w : World) : (eqGuard op T x y (.bool m) (.bool m')).run P w = .ok () w := by
  unfold eqGuard; split <;> simp
theorem eqGuard_string (op : BinOp) (T : TypeId) (x y : Operand) (m m' : ByteArray) (w : World) : (eqGuard op T x y (.string m) (.string m')).run P w = .ok () w := by
  unfold eqGuard; split <;> simp

theorem B.add {k : IntKind} {x y : Int} : BinRun P .add (.int k x) (.int k y) (.int k (k.wrap (x + y))) := fun T w =>
  ⟨by simp [binOp, Op.intArith], fun a b => eqGuard_int _ _ _ _ _ _ _ _ _⟩
theorem B.sub {k : IntKind} {x y : Int} : BinRun P .sub (.int k x) (.int k y) (.int k (k.wrap (x - y))) := fun T w =>
  ⟨by simp [binOp, Op.intArith], fun a b => eqGuard_int _ _ _ _ _ _ _ _ _⟩
theorem B.mul {k : IntKind} {x y : Int} : BinRun P .mul (.int k x) (.int k y) (.int k (k.wrap (x * y))) := fun T w =>
  ⟨by simp [binOp, Op.intArith], fun a b => eqGuard_int _ _ _ _ _ _ _ _ _⟩
theorem B.quo {k : IntKind} {x y : Int} (hy : y ≠ 0) : BinRun P .quo (.int k x) (.int k y) (.int k (k.wrap (x.tdiv y))) := fun T w =>
  ⟨by simp [binOp, Op.intDiv, hy], fun a b => eqGuard_int _ _ _ _ _ _ _ _ _⟩
theorem B.rem {k : IntKind} {x y : Int} (hy : y ≠ 0) : BinRun P .rem (.int k x) (.int k y) (.int k (x.tmod y)) := fun T w =>
  ⟨by simp [binOp, Op.intDiv, hy], fun a b => eqGuard_int _ _ _ _ _ _ _ _ _⟩
theorem B.lss {k : IntKind} {x y : Int} : BinRun P .lss (.int k x) (.int k y) (.bool (decide (x < y))) := fun T w =>
  ⟨by simp [binOp, Op.intCmp], fun a b => eqGuard_int _ _ _ _ _ _ _ _ _⟩
theorem B.leq {k : IntKind} {x y : Int} : BinRun P .leq (.int k x) (.int k y) (.bool (decide (x ≤ y))) := fun T w =>
  ⟨by simp [binOp, Op.intCmp], fun a b => eqGuard_int _ _ _ _ _ _ _ _ _⟩
theorem B.gtr {k : IntKind} {x y : Int} : BinRun P .gtr (.int k x) (.int k y) (.bool (decide (y < x))) := fun T w =>
  ⟨by simp [binOp, Op.intCmp], fun a b => eqGuard_int _ _ _ _ _ _ _ _ _⟩
theorem B.geq {k : IntKind} {x y : Int} : BinRun P .geq (.int k x) (.int k y) (.bool (decide (y ≤ x))) := fun T w =>
  ⟨by simp [binOp, Op.intCmp], fun a b => eqGuard_int _ _ _ _ _ _ _ _ _⟩
theorem B.eql {k : IntKind} {x y : Int} : BinRun P .eql (.int k x) (.int k y) (.bool (decide (x = y))) := fun T w =>
  ⟨by simp [binOp, Op.intCmp, beq_dec], fun a b => eqGuard_int _ _ _ _ _ _ _ _ _⟩
theorem B.neq {k : IntKind} {x y : Int} : BinRun P .neq (.int k x) (.int k y) (.bool (decide (x ≠ y))) := fun T w =>
  ⟨by simp [binOp, Op.intCmp, bne, beq_dec], fun a b => eqGuard_int _ _ _ _ _ _ _ _ _⟩
theorem B.eqlS {x y : List UInt8} : BinRun P .eql (vS x) (vS y) (.bool (decide (x = y))) := fun T w =>
  ⟨by simp [binOp, Op.stringOp, ByteArray.toList_eq, beq_dec], fun a b => eqGuard_string _ _ _ _ _ _ _⟩
theorem B.neqS {x y : List UInt8} : BinRun P .neq (vS x) (vS y) (.bool (decide (x ≠ y))) := fun T w =>
  ⟨by simp [binOp, Op.stringOp, ByteArray.toList_eq, beq_dec], fun a b => eqGuard_string _ _ _ _ _ _ _⟩
/- in range -/
theorem B.addI {x y : Int} (h1 : -9223372036854775808 ≤ x + y) (h2 : x + y ≤ 9223372036854775807) : BinRun P .add (vI x) (vI y) (vI (x + y)) := by
  have h := B.add (P := P) (k := .i64) (x := x) (y := y)
  rwa [show IntKind.i64.wrap (x + y) = x + y from IntWalk.i64_in _ ⟨h1, h2⟩] at h
theorem B.subI {x y : Int} (h1 : -9223372036854775808 ≤ x - y) (h2 : x - y ≤ 9223372036854775807) : BinRun P .sub (vI x) (vI y) (vI (x - y)) := by
  have h := B.sub (P := P) (k := .i64) (x := x) (y := y)
  rwa [show IntKind.i64.wrap (x - y) = x - y from IntWalk.i64_in _ ⟨h1, h2⟩] at h
theorem B.mulI {x y : Int} (h1 : -9223372036854775808 ≤ x * y) (h2 : x * y ≤ 9223372036854775807) : BinRun P .mul (vI x) (vI y) (vI (x * y)) := by
  have h := B.mul (P := P) (k := .i64) (x := x) (y := y)
  rwa [show IntKind.i64.wrap (x * y) = x * y from IntWalk.i64_in _ ⟨h1, h2⟩] at h
theorem B.quoI {x y : Int} (hx : 0 ≤ x) (hx2 : x ≤ 9223372036854775807) (hy : 0 < y) : BinRun P .quo (vI x) (vI y) (vI (x / y)) := by
  have h := B.quo (P := P) (k := .i64) (x := x) (y := y) (by omega)
  have h3 : x.tdiv y = x / y := Int.tdiv_eq_ediv_of_nonneg hx
  have h4 : 0 ≤ x / y := Int.ediv_nonneg hx (by omega)
  have h5 : x / y ≤ x := Int.ediv_le_self _ hx
  rw [h3] at h
  rwa [show IntKind.i64.wrap (x / y) = x / y from IntWalk.i64_in _ ⟨by omega, by omega⟩] at h
theorem B.remI {x y : Int} (hx : 0 ≤ x) (hy : 0 < y) : BinRun P .rem (vI x) (vI y) (vI (x % y)) := by
  have h := B.rem (P := P) (k := .i64) (x := x) (y := y) (by omega)
  rwa [Int.tmod_eq_emod_of_nonneg hx] at h
end
end Go.Wk

namespace Go.Wk

section
variable {P : Program} {n : Nat} {κ : World} {al : List (Nat × Value)} {L L1 : List Assn} {o : Oper} {v : Value}

theorem run_sizeOf_info {T : TypeId} {i : TypeInfo} (h : P.info? T = some i) (w : World) : (sizeOf T).run P w = .ok i.size w := by
  simp [sizeOf, typeInfo, h]
theorem One.agg {T : TypeId} (h : One P T) (w : World) : (isAgg T).run P w = .ok false w := by
  obtain ⟨d, i, h1, h2, _⟩ := h
  unfold isAgg
  simp [run_underlying h1]
  cases d <;> simp_all
theorem Agg.agg {T : TypeId} {m : Nat} (h : Agg P T m) (w : World) : (isAgg T).run P w = .ok true w := by
  obtain ⟨d, i, h1, h2, _⟩ := h
  unfold isAgg
  simp [run_underlying h1]
  cases d <;> simp_all

/- 1. ADDRESSES -/
theorem addr_add (b o k : Nat) : (⟨b, o, none⟩ : Addr).add k = ⟨b, o + k, none⟩ := by
  unfold Addr.add; split
  · simp_all
  · rfl

theorem V.fieldAddr {s f off b i : Nat} {x : Operand} (ho : o.op = .fieldAddr s x f) (hx : ev al x = some (ptr b i)) (hf : FieldOff P s f off) : OpV P n κ al L o (ptr b (i + off)) := V.of_run fun a w he => by
  obtain ⟨fs, fd, ti, h1, h2, h3, h4, rfl⟩ := hf
  simp [execOp, ho, he.ev hx, Instr.fieldAt, run_underlying h1, h2, Instr.sureAddr, fieldPlace, run_sizeOf_info h3, h4, addr_add]

/-- The element's size of a slice type; of an array type. -/
def SliceTy (P : Program) (T E sz : Nat) : Prop := ∃ i, P.underlying T = some (.slice E) ∧ P.info? E = some i ∧ i.size = sz
def ArrTy (P : Program) (T len E sz : Nat) : Prop := ∃ i, P.underlying T = some (.array len E) ∧ P.info? E = some i ∧ i.size = sz

theorem V.indexArr {T len E sz b j : Nat} {k : IntKind} {i : Int} {x y : Operand} (ho : o.op = .indexAddr T x y) (hT : ArrTy P T len E sz) (hx : ev al x = some (ptr b j)) (hy : ev al y = some (.int k i)) (h0 : 0 ≤ i) (h1 : i < len) :
    OpV P n κ al L o (ptr b (j + i.toNat * sz)) := V.of_run fun a w he => by
  obtain ⟨ti, h2, h3, rfl⟩ := hT
  simp [execOp, ho, he.ev hx, he.ev hy, Instr.indexAt, asIntOf, run_underlying h2, Instr.sureAddr, h0, h1, run_sizeOf_info h3, addr_add]

/- 2. LOADS FROM BLOCKS OF OUR OWN -/
theorem cell_of_blk {w : World} {b i : Nat} {T : TypeId} {cs : List Value} {u : Value} (hs : Sep κ w L) (hp : Pick (Blk b T cs) L L1) (hc : cs[i]? = some u) : w.cell? ⟨b, i, none⟩ = some u := by
  simp [World.cell?, hs.blk hp, hc]
theorem frozen_of_blk {w : World} {b i : Nat} {T : TypeId} {cs : List Value} (hs : Sep κ w L) (hp : Pick (Blk b T cs) L L1) : w.frozen? ⟨b, i, none⟩ = false := by
  simp [World.frozen?, hs.blk hp]

theorem V.load {T E b i : Nat} {x : Operand} {cs : List Value} (ho : o.op = .load T x) (hT : One P T) (hx : ev al x = some (ptr b i)) (hp : Pick (Blk b E cs) L L1) (hc : cs[i]? = some v) : OpV P n κ al L o v := fun a w he hs => by
  have hcell := cell_of_blk hs hp hc
  simp [execOp, ho, he.ev hx, Instr.loadAt, Instr.sureAddr, loadVar, hT.agg w, hcell]

theorem V.loadAgg {T E b i m : Nat} {x : Operand} {cs us : List Value} (ho : o.op = .load T x) (hT : Agg P T m) (hx : ev al x = some (ptr b i)) (hp : Pick (Blk b E cs) L L1) (hc : (cs.drop i).take m = us) (hm : us.length = m) :
    OpV P n κ al L o (.agg us.toArray) := fun a w he hs => by
  have hl : (loadCells ⟨b, i, none⟩ us.length).run P w = .ok us.toArray w := by
    refine run_loadCells_list w _ us fun j u hj => ?_
    rw [addr_add]
    refine cell_of_blk hs hp ?_
    rw [← hc, List.getElem?_take] at hj
    split at hj
    · simpa using hj
    · cases hj
  have hg := hT.agg w
  obtain ⟨d, ti, h1, h2, h3, h4⟩ := hT
  rw [← h4] at hm
  rw [hm] at hl
  simp [execOp, ho, he.ev hx, Instr.loadAt, Instr.sureAddr, loadVar, hg, run_sizeOf_info h3, hl]

/- 3. STORES INTO BLOCKS OF OUR OWN -/
theorem OpE.of_run {K : Post} (h : ∀ a w, Env n al a → Sep κ w L → ∃ v w' M, ((execOp a.eval o).run P w = .ok (.value v) w' ∨ ((execOp a.eval o).run P w = .ok .skip w' ∧ v = undef)) ∧ K v M ∧ Sep κ w' M) : OpE P n κ al L o K := by
  intro a w he hs
  obtain ⟨v, w', M, hr, hK, hs'⟩ := h a w he hs
  unfold Oper.wp
  rcases hr with hr | ⟨hr, rfl⟩ <;> rw [hr] <;> exact ⟨_, rfl, M, hK, hs'⟩

/-- A list with these elements from place i on. -/
def setAt (cs : List Value) (i : Nat) : List Value → List Value
  | [] => cs
  | u :: us => setAt (cs.set i u) (i + 1) us

theorem run_storeCells_blk {b E : Nat} : ∀ (us : List Value) (i : Nat) (cs : List Value) (w : World) (L : List Assn), Sep κ w L → Pick (Blk b E cs) L L1 → (∀ u ∈ us, u.oneCell' = true) → i + us.length ≤ cs.length → ∀ j o, o + j = i →
    ∃ w', (storeCells ⟨b, o, none⟩ us j).run P w = .ok () w' ∧ Sep κ w' (Blk b E (setAt cs i us) :: L1)
  | [], i, cs, w, L, hs, hp, _, _, j, o, _ => ⟨w, rfl, hs.ent hp⟩
  | u :: us, i, cs, w, L, hs, hp, h1, hl, j, o, hj => by
    have hlt : i < cs.length := by simp at hl; omega
    have hcell := cell_of_blk (i := i) hs hp (List.getElem?_eq_getElem hlt)
    have hfr := frozen_of_blk (i := i) hs hp
    have hs2 := hs.setCell (i := i) u hp
    obtain ⟨w', hr, hs'⟩ := run_storeCells_blk us (i + 1) (cs.set i u) _ _ hs2 Pick.here (fun u' hu => h1 u' (List.mem_cons_of_mem _ hu)) (by simp at hl ⊢; omega) (j + 1) o (by omega)
    refine ⟨w', ?_, hs'⟩
    have ha : (⟨b, o, none⟩ : Addr).add j = ⟨b, i, none⟩ := by rw [addr_add, hj]
    simp only [storeCells, ha]
    have hst := run_store P w ⟨b, i, none⟩ u .plain (h1 u (List.mem_cons_self ..))
    simp [hst, hcell, hfr, hr]

theorem E.store {T E b i : Nat} {x y : Operand} {cs : List Value} {u : Value} {m : Nat} (us : List Value) (ho : o.op = .store T x y) (hx : ev al x = some (ptr b i)) (hy : ev al y = some u) (hu : u.cells = us.toArray) (hm : us.length = m)
    (hT : ∃ ti, P.info? T = some ti ∧ ti.size = m) (hp : Pick (Blk b E cs) L L1) (h1 : ∀ u ∈ us, u.oneCell' = true) (hl : i + m ≤ cs.length) :
    OpE P n κ al L o fun _ M => M = Blk b E (setAt cs i us) :: L1 := OpE.of_run fun a w he hs => by
  obtain ⟨ti, h2, h3⟩ := hT
  obtain ⟨w', hr, hs'⟩ := run_storeCells_blk (P := P) us i cs w L hs hp h1 (by omega) 0 i rfl
  refine ⟨undef, w', _, .inr ⟨?_, rfl⟩, rfl, hs'⟩
  simp [execOp, ho, he.ev hx, he.ev hy, Instr.storeAt, Instr.sureAddr, storeVar, run_sizeOf_info h2, hu, h3, hm, hr]

/- 4. NEW BLOCKS -/
theorem run_newRow (w : World) (e : TypeId) (c : Array Value) : (newRow e c).run P w = .ok ⟨w.heap.size, 0, none⟩ (w.alloc (.cells c e)) := by
  simp [newRow]
theorem E.alloc {T : TypeId} {zs : List Value} (ho : o.op = .alloc T) (hz : Zero P T zs) : OpE P n κ al L o fun v M => ∃ b, v = ptr b 0 ∧ M = Blk b T zs :: L := OpE.of_run fun a w he hs => by
  obtain ⟨i, z, h1, h2, h3⟩ := hz
  refine ⟨ptr w.heap.size 0, w.alloc (.cells zs.toArray T), _, .inl ?_, ⟨_, rfl, rfl⟩, hs.alloc⟩
  simp [execOp, ho, Instr.alloc, zeroValue, typeInfo, h1, h2, newVar, h3, run_newRow]
theorem E.box {T : TypeId} {x : Operand} {u : Value} (us : List Value) (ho : o.op = .box T x) (hx : ev al x = some u) (hu : u.cells = us.toArray) : OpE P n κ al L o fun v M => ∃ b, v = ptr b 0 ∧ M = Blk b T us :: L := OpE.of_run fun a w he hs => by
  refine ⟨ptr w.heap.size 0, w.alloc (.cells us.toArray T), _, .inl ?_, ⟨_, rfl, rfl⟩, hs.alloc⟩
  simp [execOp, ho, he.ev hx, Instr.box, newVar, hu, run_newRow]

/- 5. STRUCTS AND ARRAYS BUILT -/
/-- The parts, each with its cells, laid into a row. -/
def fillL (place : Nat → Option (Nat × Nat)) (cs : List Value) : List (Nat × List Value) → Option (List Value)
  | [] => some cs
  | (i, us) :: rest => match place i with
    | none => none
    | some (off, sz) => if us.length = sz ∧ off + us.length ≤ cs.length then fillL place (setAt cs off us) rest else none

theorem length_setAt : ∀ (us : List Value) (cs : List Value) (i : Nat), (setAt cs i us).length = cs.length
  | [], _, _ => rfl
  | u :: us, cs, i => by simp [setAt, length_setAt us]

theorem foldl_setAt (off : Nat) : ∀ (us : List Value) (k : Nat) (cs : List Value),
    (us.zipIdx k).foldl (fun (c : Array Value) (x : Value × Nat) => c.setIfInBounds (off + x.2) x.1) cs.toArray = (setAt cs (off + k) us).toArray
  | [], _, _ => rfl
  | u :: us, k, cs => by
    have h := foldl_setAt off us (k + 1) (cs.set (off + k) u)
    simp only [List.zipIdx_cons, List.foldl_cons, setAt]
    rw [show (cs.toArray.setIfInBounds (off + k) u) = (cs.set (off + k) u).toArray from by simp, h]
    rfl

/-- These are the parts' cells. -/
def PartsOf (al : List (Nat × Value)) : List (Nat × Operand) → List (Nat × List Value) → Prop
  | [], [] => True
  | (i, x) :: r, (j, us) :: s => i = j ∧ (∃ u, ev al x = some u ∧ u.cells = us.toArray) ∧ PartsOf al r s
  | _, _ => False

theorem run_fill {a : Act} (he : Env n al a) (place : Nat → Option (Nat × Nat)) : ∀ (ps : List (Nat × Operand)) (qs : List (Nat × List Value)) (cs : List Value) {r : List Value}, PartsOf al ps qs → fillL place cs qs = some r →
    Instr.fill place cs.toArray (ps.map fun (i, x) => (i, a.eval x)) = some r.toArray
  | [], [], cs, r, _, h => by cases h; rfl
  | [], _ :: _, _, _, h, _ => h.elim
  | _ :: _, [], _, _, h, _ => h.elim
  | (i, x) :: ps, (j, us) :: qs, cs, r, ⟨hij, ⟨u, hu, hc⟩, hr⟩, h => by
    subst hij
    simp only [fillL] at h
    simp only [List.map_cons, Instr.fill]
    cases hp : place i with
    | none => rw [hp] at h; cases h
    | some q =>
      obtain ⟨off, sz⟩ := q
      rw [hp] at h
      simp only at h
      split at h
      · rename_i hcond
        have ih := run_fill he place ps qs _ hr h
        have hfold := foldl_setAt off us 0 cs
        simp only [he.ev hu, hc]
        simp only [Nat.add_zero] at hfold
        have e1 : us.toArray.zipIdx.foldl (fun (cs : Array Value) (x : Value × Nat) => match x with | (c, j) => cs.setIfInBounds (off + j) c) cs.toArray = (setAt cs off us).toArray := by
          rw [← Array.foldl_toList]
          simpa using hfold
        rw [if_neg (by simp; omega), e1]
        exact ih
      · cases h

def BuildS (P : Program) (T : TypeId) (zs : List Value) (places : List (Nat × Nat)) : Prop :=
  Zero P T zs ∧ ∃ fs, P.underlying T = some (.struct fs) ∧ ∀ w, (fs.mapM (fun (f : Field) => Functor.map (Prod.mk f.offset) (sizeOf f.type))).run P w = .ok places.toArray w
def BuildA (P : Program) (T : TypeId) (zs : List Value) (len sz : Nat) : Prop := Zero P T zs ∧ ∃ E i, P.underlying T = some (.array len E) ∧ P.info? E = some i ∧ i.size = sz

theorem V.buildS {T : TypeId} {ps : Array (Nat × Operand)} {zs : List Value} {places : List (Nat × Nat)} (qs : List (Nat × List Value)) (ho : o.op = .build T ps) (hT : BuildS P T zs places) (hq : PartsOf al ps.toList qs) {cs : List Value} (hf : fillL (fun (i : Nat) => places[i]?) zs qs = some cs) :
    OpV P n κ al L o (.agg cs.toArray) := V.of_run fun a w he => by
  obtain ⟨⟨i, z, h1, h2, h3⟩, fs, h4, h5⟩ := hT
  have := run_fill he _ ps.toList qs zs hq hf
  simp [execOp, ho, Instr.build, zeroValue, typeInfo, h1, h2, h3, run_underlying h4, h5, this]
theorem V.buildA {T len sz : Nat} {ps : Array (Nat × Operand)} {zs : List Value} (qs : List (Nat × List Value)) (ho : o.op = .build T ps) (hT : BuildA P T zs len sz) (hq : PartsOf al ps.toList qs) {cs : List Value} (hf : fillL (fun i => some (i * sz, sz)) zs qs = some cs) :
    OpV P n κ al L o (.agg cs.toArray) := V.of_run fun a w he => by
  obtain ⟨⟨i, z, h1, h2, h3⟩, E, i', h4, h5, rfl⟩ := hT
  have := run_fill he _ ps.toList qs zs hq hf
  simp [execOp, ho, Instr.build, zeroValue, typeInfo, h1, h2, h3, run_underlying h4, run_sizeOf_info h5, this]

/- 6. CALLS -/
def IsGo (P : Program) (f : FuncId) : Prop := ∃ fn, P.funcs[f]? = some fn ∧ (fn.name == "runtime.NumGoroutine") = false ∧ fn.body.isNone = false

def evs (al : List (Nat × Value)) : List Operand → Option (List Value)
  | [] => some []
  | x :: r => match ev al x, evs al r with | some v, some vs => some (v :: vs) | _, _ => none
theorem Env.evs {a : Act} (he : Env n al a) : ∀ {xs : List Operand} {vs : List Value}, Wk.evs al xs = some vs → xs.map a.eval = vs
  | [], vs, h => by cases h; rfl
  | x :: r, vs, h => by
    simp only [Wk.evs] at h
    split at h
    · rename_i v vs' h1 h2
      cases h
      simp [he.ev h1, he.evs h2]
    · cases h

theorem run_callFunc {f : FuncId} (hf : IsGo P f) (args : Array Value) (w : World) : (callFunc f args).run P w = .ok (.enter f args) w := by
  obtain ⟨fn, h1, h2, h3⟩ := hf
  have h2' : ¬ fn.name = "runtime.NumGoroutine" := by simpa using h2
  have h3' : ¬ fn.body = none := by intro e; rw [e] at h3; cases h3
  unfold callFunc
  simp [h1, h2', h3']

theorem E.call {f : FuncId} {xs : Array Operand} {ts : Array TypeId} {vs : List Value} {K : Post} (ho : o.op = .call ⟨.value (.func f), xs, ts⟩) (hf : IsGo P f) (hx : evs al xs.toList = some vs) (hc : Ctr P f vs.toArray κ L K) : OpE P n κ al L o K := fun a w he hs => by
  have hm : xs.map a.eval = vs.toArray := by
    rw [← he.evs hx]; apply Array.ext'; simp
  have hr : (execOp a.eval o).run P w = .ok (.enter f vs.toArray) w := by
    simp [execOp, ho, resolve, Act.eval, Deferred.ofValue, invoke, hm, run_callFunc hf]
  unfold Oper.wp
  rw [hr]
  refine Calls.mono (hc w hs) ?_
  rintro e w' ⟨v, rfl, hK⟩
  exact ⟨v, rfl, hK⟩

/-- The operations that yield a value and leave memory alone, under what is asked of those that do not. -/
theorem OpE.of_val {K : Post} (h : OpV P n κ al L o v) (hK : K v L) : OpE P n κ al L o K := OpE.of_run fun a w he hs => ⟨v, w, L, .inl (h a w he hs), hK, hs⟩

/- 7. RETURNS -/
variable {f : FuncId} {fn : Func}
theorem Ret.none (hf : P.funcs[f]? = some fn) (hr : fn.results = #[]) : ReturnsOf P f n κ al L (.tuple #[]) := ⟨fn, hf, fun a w _ _ => by simp [results, hr]⟩
theorem Ret.one {t : Tmp} {u : Value} (hf : P.funcs[f]? = some fn) (hr : fn.results = #[.tmp t]) (hu : look al t = some u) : ReturnsOf P f n κ al L u := ⟨fn, hf, fun a w he _ => by
  rw [results_tmp hr, he.get t u hu]⟩
theorem Ret.two {t s : Tmp} {u u' : Value} (hf : P.funcs[f]? = some fn) (hr : fn.results = #[.tmp t, .tmp s]) (hu : look al t = some u) (hu' : look al s = some u') : ReturnsOf P f n κ al L (.tuple #[u, u']) := ⟨fn, hf, fun a w he _ => by
  rw [results_tmp2 hr, he.get t u hu, he.get s u' hu']⟩
end
end Go.Wk

namespace Go.Wk

/- 1. HOW A TYPE's VALUES READ -/

/-- How the values of a Go type read: sz cells; 'rep z cs x': these cells read as x, by what is immutable. -/
structure Rep (α : Type) where
  sz : Nat
  rep : Frag → List Value → α → Prop
  mono : ∀ {z z' : Frag} {cs : List Value} {x : α}, z.le z' → rep z cs x → rep z' cs x
  len : ∀ {z : Frag} {cs : List Value} {x : α}, rep z cs x → cs.length = sz
  one : ∀ {z : Frag} {cs : List Value} {x : α}, rep z cs x → ∀ u ∈ cs, u.oneCell' = true

/-- One cell, which the datum determines. -/
def Rep.sc {α : Type} (val : α → Value) (ok : α → Prop) (h1 : ∀ x, (val x).oneCell' = true) : Rep α where
  sz := 1
  rep _ cs x := cs = [val x] ∧ ok x
  mono _ h := h
  len h := by rw [h.1]; rfl
  one h u hu := by rw [h.1] at hu; simp at hu; subst hu; exact h1 _

def inInt (x : Int) : Prop := -9223372036854775808 ≤ x ∧ x ≤ 9223372036854775807
def maxN : Nat := 140737488355328

def R8 : Rep UInt8 := Rep.sc v8 (fun _ => True) (fun _ => rfl)
def R32 : Rep UInt32 := Rep.sc v32 (fun _ => True) (fun _ => rfl)
def R64 : Rep UInt64 := Rep.sc v64 (fun _ => True) (fun _ => rfl)
def RI : Rep Int := Rep.sc vI inInt (fun _ => rfl)
def RB : Rep Bool := Rep.sc vB (fun _ => True) (fun _ => rfl)
def RS : Rep (List UInt8) := Rep.sc vS (fun l => l.length ≤ 9223372036854775807) (fun _ => rfl)

/-- A row of cells reads as this list. -/
def Rep.rows {α : Type} (T : Rep α) (z : Frag) (cs : List Value) (l : List α) : Prop :=
  cs.length = l.length * T.sz ∧ ∀ i x, l[i]? = some x → T.rep z ((cs.drop (i * T.sz)).take T.sz) x

def cellAt (z : Frag) (b i : Nat) : Option Value := match z b with | some (.cells c _ _) => c[i]? | _ => none
/-- These cells lie there. -/
def Row (z : Frag) (b o : Nat) (cs : List Value) : Prop := ∀ i u, cs[i]? = some u → cellAt z b (o + i) = some u

theorem cellAt_mono {z z' : Frag} {b i : Nat} {u : Value} (h : z.le z') (hc : cellAt z b i = some u) : cellAt z' b i = some u := by
  unfold cellAt at *
  cases hz : z b with
  | none => rw [hz] at hc; cases hc
  | some o => rw [h b o hz]; rw [hz] at hc; exact hc
theorem Row.mono {z z' : Frag} {b o : Nat} {cs : List Value} (h : z.le z') (hr : Row z b o cs) : Row z' b o cs := fun i u hu => cellAt_mono h (hr i u hu)
theorem Row.sub {z : Frag} {b o : Nat} {cs : List Value} (hr : Row z b o cs) (k m : Nat) : Row z b (o + k) ((cs.drop k).take m) := fun i u hu => by
  rw [List.getElem?_take] at hu
  split at hu
  · rw [List.getElem?_drop] at hu
    rw [Nat.add_assoc]; exact hr _ u hu
  · cases hu
theorem Rep.rows.mono {α : Type} {T : Rep α} {z z' : Frag} {cs : List Value} {l : List α} (h : z.le z') (hr : T.rows z cs l) : T.rows z' cs l := ⟨hr.1, fun i x hx => T.mono h (hr.2 i x hx)⟩
theorem Rep.rows.nil {α : Type} (T : Rep α) (z : Frag) : T.rows z [] [] := ⟨by simp, fun i x hx => by simp at hx⟩
theorem Rep.rows.sub {α : Type} {T : Rep α} {z : Frag} {cs : List Value} {l : List α} (hr : T.rows z cs l) (k m : Nat) : T.rows z ((cs.drop (k * T.sz)).take (m * T.sz)) ((l.drop k).take m) := by
  refine ⟨?_, fun i x hx => ?_⟩
  · simp only [List.length_take, List.length_drop, hr.1]
    rw [← Nat.sub_mul]
    rcases Nat.le_total m (l.length - k) with h | h
    · rw [Nat.min_eq_left (Nat.mul_le_mul_right _ h), Nat.min_eq_left h]
    · rw [Nat.min_eq_right (Nat.mul_le_mul_right _ h), Nat.min_eq_right h]
  · rw [List.getElem?_take] at hx
    split at hx
    · rename_i hlt
      rw [List.getElem?_drop] at hx
      have h := hr.2 (k + i) x hx
      have e : ((((cs.drop (k * T.sz)).take (m * T.sz)).drop (i * T.sz)).take T.sz) = (cs.drop ((k + i) * T.sz)).take T.sz := by
        rw [List.drop_take, List.drop_drop, List.take_take, Nat.add_mul]
        congr 1
        have : (i + 1) * T.sz ≤ m * T.sz := Nat.mul_le_mul_right _ hlt
        rw [Nat.add_mul] at this
        omega
      rw [e]; exact h
    · cases hx
theorem Rep.rows.append {α : Type} {T : Rep α} {z : Frag} {cs cs' : List Value} {l l' : List α} (hr : T.rows z cs l) (hr' : T.rows z cs' l') : T.rows z (cs ++ cs') (l ++ l') := by
  refine ⟨by simp [hr.1, hr'.1, Nat.add_mul], fun i x hx => ?_⟩
  by_cases h : i < l.length
  · rw [List.getElem?_append_left h] at hx
    have h1 := hr.2 i x hx
    have : (i + 1) * T.sz ≤ l.length * T.sz := Nat.mul_le_mul_right _ h
    rw [Nat.add_mul, ← hr.1] at this
    rw [List.drop_append_of_le_length (by omega), List.take_append_of_le_length (by simp; omega)]
    exact h1
  · rw [List.getElem?_append_right (by omega)] at hx
    have h1 := hr'.2 _ x hx
    have e : i * T.sz = cs.length + (i - l.length) * T.sz := by rw [hr.1, ← Nat.add_mul]; congr 1; omega
    rw [e, List.drop_append]
    rw [show cs.drop (cs.length + (i - l.length) * T.sz) = [] from List.drop_eq_nil_of_le (by omega)]
    rw [show cs.length + (i - l.length) * T.sz - cs.length = (i - l.length) * T.sz from by omega]
    simpa using h1
theorem Rep.rows.single {α : Type} {T : Rep α} {z : Frag} {cs : List Value} {x : α} (hr : T.rep z cs x) : T.rows z cs [x] := by
  have hl := T.len hr
  refine ⟨by simp [hl], fun i y hy => ?_⟩
  match i, hy with
  | 0, hy => simp at hy; subst hy; simpa [← hl] using hr
/-- One cell an element. -/
theorem rows_sc {α : Type} {val : α → Value} {ok : α → Prop} {h1 : ∀ x, (val x).oneCell' = true} {z : Frag} {cs : List Value} {l : List α} : (Rep.sc val ok h1).rows z cs l ↔ cs = l.map val ∧ ∀ x ∈ l, ok x := by
  constructor
  · rintro ⟨hl, hr⟩
    simp only [Rep.sc, Nat.mul_one] at hl hr
    refine ⟨?_, fun x hx => ?_⟩
    · apply List.ext_getElem (by simp [hl])
      intro i h1 h2
      simp at h2
      have := (hr i l[i] (List.getElem?_eq_getElem h2)).1
      rw [List.drop_eq_getElem_cons h1] at this
      simp only [List.take_succ_cons, List.take_zero, List.cons.injEq, and_true] at this
      simpa using this
    · obtain ⟨i, hi, rfl⟩ := List.getElem_of_mem hx
      exact (hr i l[i] (List.getElem?_eq_getElem hi)).2
  · rintro ⟨rfl, hok⟩
    refine ⟨by simp [Rep.sc], fun i x hx => ?_⟩
    simp only [Rep.sc, Nat.mul_one]
    have hi : i < l.length := (List.getElem?_eq_some_iff.1 hx).1
    have hx' : l[i] = x := by rw [List.getElem?_eq_getElem hi] at hx; exact Option.some.inj hx
    refine ⟨?_, hok x (by rw [← hx']; exact List.getElem_mem hi)⟩
    rw [List.drop_eq_getElem_cons (by simpa using hi)]
    simp [hx']
theorem Rep.rows.one {α : Type} {T : Rep α} {z : Frag} {cs : List Value} {l : List α} (hsz : 0 < T.sz) (hr : T.rows z cs l) : ∀ u ∈ cs, u.oneCell' = true := by
  intro u hu
  obtain ⟨j, hj, rfl⟩ := List.getElem_of_mem hu
  have hlt : j / T.sz < l.length := by rw [Nat.div_lt_iff_lt_mul hsz]; rw [← hr.1]; exact hj
  have h := hr.2 (j / T.sz) l[j / T.sz] (List.getElem?_eq_getElem hlt)
  refine T.one h _ (List.mem_of_getElem? (i := j % T.sz) ?_)
  have hm : j % T.sz < T.sz := Nat.mod_lt _ hsz
  rw [List.getElem?_take, if_pos hm, List.getElem?_drop]
  have : j / T.sz * T.sz + j % T.sz = j := by rw [Nat.mul_comm]; exact Nat.div_add_mod j T.sz
  rw [this, List.getElem?_eq_getElem hj]

/-- An immutable slice. -/
def SlP {α : Type} (T : Rep α) (a : Option Addr) (m c : Nat) (l : List α) (z : Frag) : Prop :=
  l.length = m ∧ m ≤ c ∧ c ≤ 9223372036854775807 ∧ (m = 0 ∨ ∃ b o cs, a = some ⟨b, o, none⟩ ∧ Row z b o cs ∧ T.rows z cs l)
def Sl {α : Type} (T : Rep α) (a : Option Addr) (m c : Nat) (l : List α) : Assn := ro (SlP T a m c l)
theorem SlP.mono {α : Type} {T : Rep α} {a : Option Addr} {m c : Nat} {l : List α} {z z' : Frag} (h : z.le z') : SlP T a m c l z → SlP T a m c l z'
  | ⟨h1, h2, h3, h4⟩ => ⟨h1, h2, h3, h4.imp id fun ⟨b, o, cs, e, r, s⟩ => ⟨b, o, cs, e, r.mono h, s.mono h⟩⟩
def Rep.slice {α : Type} (T : Rep α) : Rep (List α) where
  sz := 1
  rep z cs l := ∃ a m c, cs = [.slice a m c] ∧ SlP T a m c l z
  mono h := fun ⟨a, m, c, e, s⟩ => ⟨a, m, c, e, s.mono h⟩
  len := fun ⟨_, _, _, e, _⟩ => by rw [e]; rfl
  one := fun ⟨_, _, _, e, _⟩ u hu => by rw [e] at hu; simp at hu; subst hu; rfl

/-- A slice that is ours, with room behind it. -/
def Buf {α : Type} (T : Rep α) (e : TypeId) (a : Option Addr) (m c : Nat) (l : List α) : Assn := fun z h =>
  l.length = m ∧ m ≤ c ∧ c ≤ 9223372036854775807 ∧ ((a = none ∧ m = 0 ∧ c = 0) ∨
    ∃ (b : Nat) (pre cs rest : List Value) (fz : Nat × Nat), a = some ⟨b, pre.length, none⟩ ∧ h b = some (.cells (pre ++ (cs ++ rest)).toArray e fz) ∧ (∀ i, pre.length ≤ i → i < (pre ++ (cs ++ rest)).length → ¬ (fz.1 ≤ i ∧ i < fz.2)) ∧ T.rows z cs l ∧ (cs ++ rest).length = c * T.sz)

section
variable {P : Program} {n : Nat} {κ : World} {al : List (Nat × Value)} {L L1 : List Assn} {o : Oper} {v : Value} {α : Type} {T : Rep α} {a : Option Addr} {m c : Nat} {l : List α} {e : TypeId}

theorem Buf.nil : Ent L (Buf T e none 0 0 [] :: L) := fun z h H => ⟨Frag.emp, h, z, Frag.le.refl _, Frag.emp_disj _, Frag.emp_le _, Frag.le.refl _, ⟨rfl, Nat.le_refl _, by omega, .inl ⟨rfl, rfl, rfl⟩⟩, H⟩

/-- What was ours becomes immutable. -/
theorem Buf.publish (h : ∀ {w}, Sep κ w L → Sep κ w (Buf T e a m c l :: L1)) : ∀ w, Sep κ w L → Sep κ w (Sl T a m c l :: L1) := fun w hs =>
  (h hs).publish fun z hh z' ⟨h1, h2, h3, h4⟩ hz hh' => ⟨h1, h2, h3, by
    rcases h4 with ⟨_, h, _⟩ | ⟨b, pre, cs, rest, fz, ea, hb, _, hr, _⟩
    · exact .inl h
    · refine .inr ⟨b, pre.length, cs, ea, fun i u hu => ?_, hr.mono hz⟩
      have hi : i < cs.length := (List.getElem?_eq_some_iff.1 hu).1
      simp only [cellAt, hh' b _ hb]
      simp [List.getElem?_append_right, List.getElem?_append_left hi, hu]⟩

theorem Blk.publish {b E : Nat} {cs : List Value} {R : Frag → Prop} (h : ∀ {w}, Sep κ w L → Sep κ w (Blk b E cs :: L1)) (hR : ∀ z, Row z b 0 cs → R z) : ∀ w, Sep κ w L → Sep κ w (ro R :: L1) := fun w hs =>
  (h hs).publish fun z hh z' hb _ hh' => hR z' fun i u hu => by simp only [cellAt, hh' b _ hb, Nat.zero_add]; simpa using hu

/-- A block of our own as a slice of our own. -/
theorem Buf.of_blk {b : Nat} {cs : List Value} (hc : cs.length = c * T.sz) (hl : l.length = c) (hb : c ≤ 9223372036854775807) (hR : ∀ z, T.rows z cs l) : Ent (Blk b e cs :: L) (Buf T e (some ⟨b, 0, none⟩) c c l :: L) :=
  fun _ _ ⟨h1, h2, z1, A, B, C, D, E, F⟩ => ⟨h1, h2, z1, A, B, C, D, ⟨hl, Nat.le_refl _, hb, .inr ⟨b, [], cs, [], (0, 0), rfl, by simpa [Blk] using E, fun i _ _ => by omega, hR z1, by simpa using hc⟩⟩, F⟩

theorem Sep.buf {w : World} (h : Sep κ w L) (hp : Pick (Buf T e a m c l) L L1) : l.length = m ∧ m ≤ c ∧ c ≤ 9223372036854775807 := by
  obtain ⟨_, z, x, _, _, _, d⟩ := h
  obtain ⟨_, _, _, _, _, _, _, hA, _⟩ := hp z x d
  exact ⟨hA.1, hA.2.1, hA.2.2.1⟩
theorem Sep.sl {w : World} (h : Sep κ w L) (hm : Sl T a m c l ∈ L) : ∃ z : Frag, z.le (Frag.of w) ∧ SlP T a m c l z := h.get_ro hm

theorem cell_of_row {w : World} {z : Frag} {b o i : Nat} {cs : List Value} {u : Value} (hz : z.le (Frag.of w)) (hr : Row z b o cs) (hu : cs[i]? = some u) : w.cell? ⟨b, o + i, none⟩ = some u := by
  have h := cellAt_mono hz (hr i u hu)
  unfold cellAt Frag.of at h
  unfold World.cell?
  simp only
  split at h
  · rename_i h1; rw [h1]; simpa using h
  · cases h

/- 2. READING SLICES -/

/-- The address of element j. -/
def eptr (a : Option Addr) (k : Nat) : Value := .pointer (a.map (·.add k))

theorem V.len {T' : TypeId} {xs : Array Operand} {x : Operand} (ho : o.op = .call ⟨.builtin .len, xs, #[T']⟩) (hxs : xs = #[x]) {E : TypeId} (hT : P.underlying T' = some (.slice E)) (hx : ev al x = some (.slice a m c)) : OpV P n κ al L o (vI m) := V.of_run fun a' w he => by
  subst hxs
  simp [execOp, ho, resolve, invoke, builtin, Builtin.len_, he.ev hx, run_underlying hT, goInt]
theorem V.lenS {T' : TypeId} {xs : Array Operand} {x : Operand} {s : List UInt8} (ho : o.op = .call ⟨.builtin .len, xs, #[T']⟩) (hxs : xs = #[x]) (hT : P.underlying T' = some .string) (hx : ev al x = some (vS s)) : OpV P n κ al L o (vI s.length) := V.of_run fun a' w he => by
  subst hxs
  have hx' := he.ev hx
  simp [execOp, ho, resolve, invoke, builtin, Builtin.len_, hx', run_underlying hT, goInt]
  rfl

theorem V.indexSl {T' E j : Nat} {k : IntKind} {i : Int} {x y : Operand} (ho : o.op = .indexAddr T' x y) (hT : SliceTy P T' E T.sz) (hx : ev al x = some (.slice a m c)) (hy : ev al y = some (.int k i)) (hm : Sl T a m c l ∈ L) (hj : i = (j : Int)) (hlt : j < l.length) :
    OpV P n κ al L o (eptr a (j * T.sz)) := fun a' w he hs => by
  obtain ⟨z, hz, h1, _, _, h4⟩ := hs.sl hm
  obtain ⟨ti, h5, h6, h7⟩ := hT
  rcases h4 with h4 | ⟨b, off, cs, rfl, _, _⟩
  · omega
  · subst hj
    have h8 : j < m := by omega
    simp [execOp, ho, he.ev hx, he.ev hy, Instr.indexAt, asIntOf, run_underlying h5, h8, run_sizeOf_info h6, h7, addr_add, eptr]

theorem V.loadSc {val : α → Value} {ok : α → Prop} {h1 : ∀ x, (val x).oneCell' = true} {T' j : Nat} {y : α} {x : Operand} (ho : o.op = .load T' x) (hT : One P T') (hx : ev al x = some (eptr a (j * (Rep.sc val ok h1).sz)))
    (hm : Sl (Rep.sc val ok h1) a m c l ∈ L) (hy : l[j]? = some y) : OpV P n κ al L o (val y) := fun a' w he hs => by
  obtain ⟨z, hz, h2, _, _, h4⟩ := hs.sl hm
  have hj : j < l.length := (List.getElem?_eq_some_iff.1 hy).1
  rcases h4 with h4 | ⟨b, off, cs, rfl, hr, hrows⟩
  · omega
  · obtain ⟨rfl, _⟩ := rows_sc.1 hrows
    have hcell := cell_of_row (i := j) hz hr (u := val y) (by simp [hy])
    simp only [Rep.sc, Nat.mul_one] at hx
    have hx' := he.ev hx
    simp [eptr, addr_add] at hx'
    simp [execOp, ho, hx', Instr.loadAt, Instr.sureAddr, loadVar, hT.agg w, hcell]

/-- Cells that read as y. -/
def Rd {α : Type} (T : Rep α) (cs : List Value) (y : α) : Assn := ro fun z => T.rep z cs y

/-- A whole element: its cells are not known by name, but they read as it. -/
theorem E.loadElem {T' j : Nat} {y : α} {x : Operand} (ho : o.op = .load T' x) (hT : Agg P T' T.sz) (hx : ev al x = some (eptr a (j * T.sz))) (hm : Sl T a m c l ∈ L) (hy : l[j]? = some y) :
    OpE P n κ al L o fun v M => ∃ us, v = .agg us.toArray ∧ M = Rd T us y :: L := fun a' w he hs => by
  obtain ⟨s, z, h, d1, d2, d3, d4⟩ := hs
  obtain ⟨z1, hz1, h1, _, _, h4⟩ : ∃ z1 : Frag, z1.le z ∧ SlP T a m c l z1 := by
    obtain ⟨_, _, z1, e, _, _, _, f, _⟩ := Pick.ro hm z h d4
    exact ⟨z1, e, f⟩
  have hj : j < l.length := (List.getElem?_eq_some_iff.1 hy).1
  rcases h4 with h4 | ⟨b, off, cs, rfl, hr, hrows⟩
  · omega
  · have hrep := hrows.2 j y hy
    have hus := T.len hrep
    have hr2 := hr.sub (j * T.sz) T.sz
    generalize hus' : (cs.drop (j * T.sz)).take T.sz = us at *
    have hl : (loadCells ⟨b, off + j * T.sz, none⟩ us.length).run P w = .ok us.toArray w := by
      refine run_loadCells_list w _ us fun i u hi => ?_
      rw [addr_add]
      exact cell_of_row (hz1.trans d2) hr2 hi
    have hg := hT.agg w
    obtain ⟨d, ti, e1, e2, e3, e4⟩ := hT
    have hx' := he.ev hx
    simp [eptr, addr_add] at hx'
    rw [hus, ← e4] at hl
    have hrun : (execOp a'.eval o).run P w = .ok (.value (.agg us.toArray)) w := by
      rw [← e4] at hx'
      simp [execOp, ho, hx', Instr.loadAt, Instr.sureAddr, loadVar, hg, run_sizeOf_info e3, hl]
    unfold Oper.wp
    rw [hrun]
    refine ⟨_, rfl, _, ⟨us, rfl, rfl⟩, s, z, h, d1, d2, d3, Frag.emp, h, z1, hz1, Frag.emp_disj _, Frag.emp_le _, Frag.le.refl _, hrep, d4⟩
end
end Go.Wk

namespace Go.Wk

section
variable {P : Program} {n : Nat} {κ : World} {al : List (Nat × Value)} {L L1 : List Assn} {o : Oper} {v : Value} {α : Type} {T : Rep α} {a : Option Addr} {m c : Nat} {l l' : List α} {e : TypeId}

/- 1. CUTTING -/
def BoundOf (al : List (Nat × Value)) (x : Option Operand) (d j : Nat) : Prop := match x with
  | none => j = d
  | some x => ∃ k i, ev al x = some (.int k i) ∧ i = (j : Int)

theorem run_sliceBound {k : IntKind} {j y : Nat} (h : j ≤ y) (code : BoundsCode) (w : World) : (Instr.sliceBound (.int k (j : Int)) y code).run P w = .ok j w := by
  have h' : (j : Int) ≤ (y : Int) := by omega
  simp [Instr.sliceBound, asIntOf, h]

theorem run_sliceBounds {a' : Act} (he : Env n al a') {b : Bool} {len cap lo hi : Nat} {x y : Option Operand} (hlo : BoundOf al x 0 lo) (hhi : BoundOf al y len hi) (h1 : lo ≤ hi) (h2 : hi ≤ cap) (w : World) :
    (Instr.sliceBounds b len cap (x.map a'.eval) (y.map a'.eval) none).run P w = .ok (lo, hi, cap) w := by
  cases x with
  | none =>
    cases y with
    | none => simp only [BoundOf] at hlo hhi; subst hlo; subst hhi; simp [Instr.sliceBounds]
    | some y =>
      obtain ⟨k, i, e1, rfl⟩ := hhi
      simp only [BoundOf] at hlo; subst hlo
      cases b <;> simp [Instr.sliceBounds, he.ev e1, run_sliceBound h2]
  | some x =>
    obtain ⟨k, i, e1, rfl⟩ := hlo
    cases y with
    | none => simp only [BoundOf] at hhi; subst hhi; simp [Instr.sliceBounds, he.ev e1, run_sliceBound h1]
    | some y =>
      obtain ⟨k', i', e2, rfl⟩ := hhi
      cases b <;> simp [Instr.sliceBounds, he.ev e1, he.ev e2, run_sliceBound h1, run_sliceBound h2]

def cutA (a : Option Addr) (lo sz c : Nat) : Option Addr := if c = lo then a else a.map (·.add (lo * sz))

theorem V.slice {T' E lo hi : Nat} {x : Operand} {y z : Option Operand} (ho : o.op = .slice T' x y z none) (hT : SliceTy P T' E T.sz) (hx : ev al x = some (.slice a m c)) (hlo : BoundOf al y 0 lo) (hhi : BoundOf al z m hi) (h1 : lo ≤ hi) (h2 : hi ≤ c) :
    OpV P n κ al L o (.slice (cutA a lo T.sz c) (hi - lo) (c - lo)) := V.of_run fun a' w he => by
  obtain ⟨ti, h5, h6, h7⟩ := hT
  simp [execOp, ho, Instr.sliceAt, Instr.slice, he.ev hx, run_underlying h5, run_sliceBounds he hlo hhi h1 h2, run_sizeOf_info h6, h7, cutA]

theorem SlP.cut {z : Frag} {lo hi : Nat} (h : SlP T a m c l z) (h1 : lo ≤ hi) (h2 : hi ≤ m) : SlP T (cutA a lo T.sz c) (hi - lo) (c - lo) ((l.drop lo).take (hi - lo)) z := by
  obtain ⟨g1, g2, g3, g4⟩ := h
  refine ⟨by simp; omega, by omega, by omega, ?_⟩
  by_cases h0 : hi - lo = 0
  · exact .inl h0
  rcases g4 with g4 | ⟨b, off, cs, rfl, hr, hrows⟩
  · omega
  · refine .inr ⟨b, off + lo * T.sz, (cs.drop (lo * T.sz)).take ((hi - lo) * T.sz), ?_, hr.sub _ _, hrows.sub _ _⟩
    simp [cutA, addr_add]; omega

theorem E.slice {T' E lo hi : Nat} {x : Operand} {y z : Option Operand} (ho : o.op = .slice T' x y z none) (hT : SliceTy P T' E T.sz) (hx : ev al x = some (.slice a m c)) (hm : Sl T a m c l ∈ L) (hlo : BoundOf al y 0 lo) (hhi : BoundOf al z m hi) (h1 : lo ≤ hi) (h2 : hi ≤ m) :
    OpE P n κ al L o fun v M => ∃ a', v = .slice a' (hi - lo) (c - lo) ∧ M = Sl T a' (hi - lo) (c - lo) ((l.drop lo).take (hi - lo)) :: L := OpE.of_run fun a' w he hs => by
  obtain ⟨_, _, _, g2, _⟩ := hs.sl hm
  refine ⟨_, w, _, .inl (V.slice (κ := κ) (L := L) ho hT hx hlo hhi h1 (by omega) a' w he hs), ⟨_, rfl, rfl⟩, ?_⟩
  exact hs.ent (Ent.trans (Pick.ro hm) (Ent.ro_ro fun z h => h.cut h1 h2))

theorem Sl.cut_ent {lo hi : Nat} (hm : Sl T a m c l ∈ L) (h1 : lo ≤ hi) (h2 : hi ≤ m) : Ent L (Sl T (cutA a lo T.sz c) (hi - lo) (c - lo) ((l.drop lo).take (hi - lo)) :: L) :=
  Ent.trans (Pick.ro hm) (Ent.ro_ro fun _ h => h.cut h1 h2)

/- 2. STRINGS -/
theorem V.sliceS {T' lo hi : Nat} {x : Operand} {y z : Option Operand} {s : List UInt8} (ho : o.op = .slice T' x y z none) (hT : P.underlying T' = some .string) (hx : ev al x = some (vS s)) (hlo : BoundOf al y 0 lo) (hhi : BoundOf al z s.length hi) (h1 : lo ≤ hi) (h2 : hi ≤ s.length) :
    OpV P n κ al L o (vS ((s.drop lo).take (hi - lo))) := V.of_run fun a' w he => by
  have hsz : (⟨⟨s⟩⟩ : ByteArray).size = s.length := rfl
  have hx' := he.ev hx
  have hb := run_sliceBounds (P := P) he (b := false) (len := (⟨⟨s⟩⟩ : ByteArray).size) (cap := (⟨⟨s⟩⟩ : ByteArray).size) hlo hhi h1 h2 w
  have hex : (⟨⟨s⟩⟩ : ByteArray).extract lo hi = ⟨⟨(s.drop lo).take (hi - lo)⟩⟩ := by
    apply ByteArray.ext
    rw [ByteArray.data_extract]
    simp
  simp [execOp, ho, Instr.sliceAt, Instr.slice, hx', run_underlying hT, hb, hex]

theorem V.indexS {T' j : Nat} {k : IntKind} {i : Int} {x y : Operand} {s : List UInt8} {u : UInt8} (ho : o.op = .index T' x y) (hT : P.underlying T' = some .string) (hx : ev al x = some (vS s)) (hy : ev al y = some (.int k i)) (hj : i = (j : Int)) (hu : s[j]? = some u) :
    OpV P n κ al L o (v8 u) := V.of_run fun a' w he => by
  subst hj
  have hx' := he.ev hx
  have hlt : j < s.length := (List.getElem?_eq_some_iff.1 hu).1
  have hg : (⟨⟨s⟩⟩ : ByteArray)[j]? = some u := by
    have h1 := getElem?_pos (⟨⟨s⟩⟩ : ByteArray) j (show j < (⟨⟨s⟩⟩ : ByteArray).size from hlt)
    rw [List.getElem?_eq_getElem hlt] at hu
    rw [h1]
    exact hu
  simp [execOp, ho, Instr.index, hx', he.ev hy, asIntOf, run_underlying hT, hg]

theorem B.addS {x y : List UInt8} (h : x.length + y.length ≤ 9223372036854775807) : BinRun P .add (vS x) (vS y) (vS (x ++ y)) := fun T w => by
  have hx : (⟨⟨x⟩⟩ : ByteArray).size = x.length := rfl
  have hy : (⟨⟨y⟩⟩ : ByteArray).size = y.length := rfl
  have hap : (⟨⟨x⟩⟩ : ByteArray) ++ ⟨⟨y⟩⟩ = ⟨⟨x ++ y⟩⟩ := by
    apply ByteArray.ext
    rw [ByteArray.data_append]
    simp
  have hn : ¬ ((((⟨⟨x⟩⟩ : ByteArray).size + (⟨⟨y⟩⟩ : ByteArray).size : Nat) : Int) > IntKind.i64.max) := by
    rw [hx, hy]; simp [IntKind.max, IntKind.signed, IntKind.bits]; omega
  refine ⟨?_, fun a b => eqGuard_string _ _ _ _ _ _ _⟩
  simp only [binOp, Op.stringOp]
  rw [if_neg hn, hap]
  simp

/- 3. WHAT IS APPENDED OR COPIED -/
/-- The value x stands for these elements. -/
def Src (P : Program) (L : List Assn) (T : Rep α) (x : Value) (l' : List α) : Prop :=
  ∀ z h, Holds z L h → ∃ cs : List Value, T.rows z cs l' ∧ (∀ u ∈ cs, u.oneCell' = true) ∧ ∀ w : World, z.le (Frag.of w) → h.le (Frag.of w) →
    (∀ k, k ≤ l'.length → (Builtin.firstCells T.sz k x).run P w = .ok (cs.take (k * T.sz)).toArray w) ∧ (Builtin.lenOf x).run P w = .ok l'.length w

theorem Src.nil {c' : Nat} : Src P L T (.slice none 0 c') [] := fun z h _ => ⟨[], Rep.rows.nil T z, fun u hu => by simp at hu, fun w _ _ => ⟨fun k hk => by simp [Builtin.firstCells], by simp [Builtin.lenOf]⟩⟩

theorem run_firstCells_row {w : World} {z : Frag} {b off k len cap : Nat} {cs : List Value} (hz : z.le (Frag.of w)) (hr : Row z b off cs) {sz : Nat} (hk : k * sz ≤ cs.length) :
    (Builtin.firstCells sz k (.slice (some ⟨b, off, none⟩) len cap)).run P w = .ok (cs.take (k * sz)).toArray w := by
  refine run_firstCells_some w sz k _ len cap _ (by simp; omega) fun j u hj => ?_
  rw [addr_add]
  rw [List.getElem?_take] at hj
  split at hj
  · exact cell_of_row hz hr hj
  · cases hj

theorem Src.sl (hsz : 0 < T.sz) (hm : Sl T a m c l ∈ L) : Src P L T (.slice a m c) l := fun z h H => by
  obtain ⟨_, _, z1, hz1, _, _, _, ⟨g1, g2, g3, g4⟩, _⟩ := Pick.ro hm z h H
  rcases g4 with g4 | ⟨b, off, cs, rfl, hr, hrows⟩
  · subst g4
    have hl : l = [] := List.eq_nil_of_length_eq_zero g1
    subst hl
    refine ⟨[], Rep.rows.nil T z, fun u hu => by simp at hu, fun w hz hh => ⟨fun k hk => ?_, by simp [Builtin.lenOf]⟩⟩
    simp at hk; subst hk
    cases a with
    | none => simp [Builtin.firstCells]
    | some a => simp [Builtin.firstCells, loadCells, loadCellsFrom]
  · refine ⟨cs, hrows.mono hz1, hrows.one hsz, fun w hz hh => ⟨fun k hk => ?_, by simp [Builtin.lenOf, g1]⟩⟩
    exact run_firstCells_row (hz1.trans hz) hr (by rw [hrows.1]; exact Nat.mul_le_mul_right _ hk)

theorem Src.blk {b E c' : Nat} {cs : List Value} (hp : Pick (Blk b E cs) L L1) (h1 : ∀ u ∈ cs, u.oneCell' = true) (hR : ∀ z h, Holds z L h → T.rows z cs l) : Src P L T (.slice (some ⟨b, 0, none⟩) l.length c') l := fun z h H => by
  obtain ⟨h1', h2', z1, _, _, hle, _, hb, _⟩ := hp z h H
  have hrows := hR z h H
  refine ⟨cs, hrows, h1, fun w hz hh => ⟨fun k hk => ?_, by simp [Builtin.lenOf]⟩⟩
  have hrow : Row h1' b 0 cs := fun i u hu => by simp only [cellAt, Nat.zero_add]; rw [show h1' b = _ from hb]; simpa using hu
  exact run_firstCells_row (hle.trans hh) hrow (by rw [hrows.1]; exact Nat.mul_le_mul_right _ hk)

theorem Src.str {s : List UInt8} : Src P L R8 (vS s) s := fun z h H => by
  refine ⟨s.map v8, rows_sc.2 ⟨rfl, fun _ _ => trivial⟩, fun u hu => ?_, fun w _ _ => ⟨fun k hk => ?_, rfl⟩⟩
  · obtain ⟨x, _, rfl⟩ := List.mem_map.1 hu; rfl
  · have hex : (⟨⟨s⟩⟩ : ByteArray).extract 0 k = ⟨⟨s.take k⟩⟩ := by
      apply ByteArray.ext
      rw [ByteArray.data_extract]
      simp
    simp only [Builtin.firstCells, R8, Rep.sc, Nat.mul_one]
    rw [hex]
    simp [List.map_take]

/- 4. APPEND -/
theorem setAt_append : ∀ (us cs rest : List Value), us.length ≤ rest.length → setAt (cs ++ rest) cs.length us = cs ++ us ++ rest.drop us.length
  | [], cs, rest, _ => by simp [setAt]
  | u :: us, cs, [], h => by simp at h
  | u :: us, cs, r :: rest, h => by
    have ih := setAt_append us (cs ++ [u]) rest (by simpa using h)
    simp only [setAt]
    rw [show (cs ++ r :: rest).set cs.length u = (cs ++ [u]) ++ rest from by simp]
    rw [show cs.length + 1 = (cs ++ [u]).length from by simp, ih]
    simp

theorem run_storeCells_row {g E : Nat} {fz : Nat × Nat} : ∀ (us : List Value) (i : Nat) (cs : List Value) (w : World), w.heap[g]? = some (.cells cs.toArray E fz) → (∀ k, i ≤ k → k < i + us.length → ¬ (fz.1 ≤ k ∧ k < fz.2)) → i + us.length ≤ cs.length →
    (∀ u ∈ us, u.oneCell' = true) → ∀ o j, o + j = i → ∃ w', (storeCells ⟨g, o, none⟩ us j).run P w = .ok () w' ∧ Sys w w' ∧ w'.heap[g]? = some (.cells (setAt cs i us).toArray E fz) ∧ ∀ k, k ≠ g → w'.heap[k]? = w.heap[k]?
  | [], i, cs, w, hg, _, _, _, o, j, _ => ⟨w, rfl, Sys.refl w, hg, fun _ _ => rfl⟩
  | u :: us, i, cs, w, hg, hf, hl, h1, o, j, hj => by
    have hlt : i < cs.length := by simp at hl; omega
    have hcell : w.cell? ⟨g, i, none⟩ = some cs[i] := by simp [World.cell?, hg, hlt]
    have hfr : w.frozen? ⟨g, i, none⟩ = false := by
      have := hf i (Nat.le_refl _) (by simp)
      simp [World.frozen?, hg]; omega
    have hg' : (w.setCell ⟨g, i, none⟩ u).heap[g]? = some (.cells (cs.set i u).toArray E fz) := by simp [World.setCell, Array.getElem?_modify, hg]
    have hk' : ∀ k, k ≠ g → (w.setCell ⟨g, i, none⟩ u).heap[k]? = w.heap[k]? := fun k hk => by
      simp only [World.setCell, Array.getElem?_modify]
      rw [if_neg (by simpa using fun e => hk e.symm)]
    obtain ⟨w', hr, hs, hb, hk⟩ := run_storeCells_row us (i + 1) (cs.set i u) _ hg' (fun k h2 h3 => hf k (by omega) (by simp; omega)) (by simp at hl ⊢; omega) (fun x hx => h1 x (List.mem_cons_of_mem _ hx)) o (j + 1) (by omega)
    refine ⟨w', ?_, ⟨hs.os, hs.tape, hs.output⟩, hb, fun k hk2 => (hk k hk2).trans (hk' k hk2)⟩
    have ha : (⟨g, o, none⟩ : Addr).add j = ⟨g, i, none⟩ := by rw [addr_add, hj]
    have hst := run_store P w ⟨g, i, none⟩ u .plain (h1 u (List.mem_cons_self ..))
    simp only [storeCells, ha]
    simp [hst, hcell, hfr, hr]

/-- What the tables say of a slice's element type. -/
def ElemTy (P : Program) (T' e sz bytes : Nat) : Prop := ∃ i z, P.underlying T' = some (.slice e) ∧ P.info? e = some i ∧ i.size = sz ∧ i.bytes = bytes ∧ i.zero = some z ∧ z.cells.size = sz

def NoInt (P : Program) (T : TypeId) : Prop := (∃ e, P.underlying T = some (.slice e)) ∨ P.underlying T = some .string

theorem run_append_room {T1 T2 ty sz bytes k : Nat} {x : Value} {new : Array Value} {w w' : World} {b : Option Addr} (hT : ElemTy P T1 e sz bytes) (hT2 : NoInt P T2)
    (hl : (Builtin.lenOf x).run P w = .ok k w) (hf : (Builtin.firstCells sz k x).run P w = .ok new w) (hc : m + k ≤ c)
    (hst : match b with | some a => (storeCells (a.add (m * sz)) new.toList).run P w = .ok () w' | none => w' = w) :
    (Builtin.append_ #[T1, T2] ty #[.slice b m c, x]).run P w = .ok (.slice b (m + k) c) w' := by
  obtain ⟨i, zz, h1, h2, h3, h4, h5, h6⟩ := hT
  subst h3
  cases b with
  | none =>
    subst hst
    rcases hT2 with ⟨e2, h7⟩ | h7 <;> simp [Builtin.append_, run_underlying h1, run_underlying h7, run_sizeOf_info h2, hl, hc, hf]
  | some a =>
    simp only at hst
    rcases hT2 with ⟨e2, h7⟩ | h7 <;> simp [Builtin.append_, run_underlying h1, run_underlying h7, run_sizeOf_info h2, hl, hc, hf, hst]

theorem run_append_more {T1 T2 ty sz bytes k : Nat} {x : Value} {new old : Array Value} {w : World} {b : Option Addr} (hT : ElemTy P T1 e sz bytes) (hT2 : NoInt P T2)
    (hl : (Builtin.lenOf x).run P w = .ok k w) (hf : (Builtin.firstCells sz k x).run P w.drew = .ok new w.drew) (hold : (Builtin.firstCells sz m (.slice b m c)).run P w.drew = .ok old w.drew) (hc : c < m + k)
    (h47 : (m + k) * bytes ≤ 140737488355328) (h63 : m + k ≤ 9223372036854775807) :
    ∃ zs : Array Value, zs.size = sz ∧ (Builtin.append_ #[T1, T2] ty #[.slice b m c, x]).run P w = .ok (.slice (some ⟨w.heap.size, 0, none⟩) (m + k) (grownCap w (m + k) c e)) (w.drew.alloc (.cells (old ++ new ++ Builtin.zeroCells zs (grownCap w (m + k) c e - (m + k))) e)) := by
  obtain ⟨i, zz, h1, h2, h3, h4, h5, h6⟩ := hT
  subst h3; subst h4
  refine ⟨zz.cells, h6, ?_⟩
  have hn : ¬ (m + k ≤ c) := by omega
  have h48 : ¬ (281474976710656 < Builtin.nextslicecap (m + k) c * i.bytes) := by have := growslice_fits hc h47; omega
  have h63' : ¬ (9223372036854775807 < ((m : Int) + (k : Int))) := by omega
  rcases hT2 with ⟨e2, h7⟩ | h7 <;> simp [Builtin.append_, run_underlying h1, run_underlying h7, sizeOf, typeInfo, zeroValue, h2, h5, hl, hn, h48, h63', Question.forced, hf, hold, newRow, grownCap]
end
end Go.Wk

namespace Go.Wk

def BlkF (b : Nat) (T : TypeId) (cs : List Value) (fz : Nat × Nat) : Assn := fun _ h => h b = some (.cells cs.toArray T fz)

section
variable {P : Program} {n : Nat} {κ : World} {al : List (Nat × Value)} {L L1 : List Assn} {o : Oper} {v : Value} {α : Type} {T : Rep α} {a : Option Addr} {m c : Nat} {l l' : List α} {e : TypeId}

/-- Facts on what is immutable, taken in. -/
theorem Holds.add_ro {z h : Frag} {R : Frag → Prop} (hR : R z) (H : Holds z L h) : Holds z (ro R :: L) h :=
  ⟨Frag.emp, h, z, Frag.le.refl _, Frag.emp_disj _, Frag.emp_le _, Frag.le.refl _, hR, H⟩

/-- A slice of our own that is not nil, opened. -/
theorem Sep.open_buf {w : World} (hs : Sep κ w (Buf T e a m c l :: L)) : (a = none ∧ m = 0 ∧ c = 0 ∧ l = []) ∨
    ∃ (b : Nat) (pre cs rest : List Value) (fz : Nat × Nat), a = some ⟨b, pre.length, none⟩ ∧ (∀ i, pre.length ≤ i → i < (pre ++ (cs ++ rest)).length → ¬ (fz.1 ≤ i ∧ i < fz.2)) ∧ (cs ++ rest).length = c * T.sz ∧ cs.length = m * T.sz ∧
      Sep κ w (BlkF b e (pre ++ (cs ++ rest)) fz :: ro (fun z => T.rows z cs l) :: L) := by
  obtain ⟨s, z, h, d1, d2, d3, h1, h2, z1, g1, g2, g3, g4, ⟨k1, k2, k3, k4⟩, H⟩ := hs
  rcases k4 with ⟨k4, k5, k6⟩ | ⟨b, pre, cs, rest, fz, rfl, hb, hf, hr, hl⟩
  · exact .inl ⟨k4, k5, k6, List.eq_nil_of_length_eq_zero (by omega)⟩
  · refine .inr ⟨b, pre, cs, rest, fz, rfl, hf, hl, by rw [hr.1, k1], s, z, h, d1, d2, d3, h1, h2, z1, g1, g2, g3, g4, hb, ?_⟩
    exact Holds.add_ro (hr.mono g1) H

theorem Buf.closeO {b : Nat} {pre cs rest : List Value} {fz : Nat × Nat} (hl : l.length = m) (hc : m ≤ c) (h63 : c ≤ 9223372036854775807) (hf : ∀ i, pre.length ≤ i → i < (pre ++ (cs ++ rest)).length → ¬ (fz.1 ≤ i ∧ i < fz.2)) (hlen : (cs ++ rest).length = c * T.sz) :
    Ent (BlkF b e (pre ++ (cs ++ rest)) fz :: ro (fun z => T.rows z cs l) :: L) (Buf T e (some ⟨b, pre.length, none⟩) m c l :: L) := by
  rintro z h ⟨h1, h2, z1, g1, g2, g3, g4, hb, h3, h4, z2, f1, f2, f3, f4, hr, H⟩
  exact ⟨h1, h4, z, Frag.le.refl _, g2.mono (Frag.le.refl _) f4, g3, f4.trans g4, ⟨hl, hc, h63, .inr ⟨b, pre, cs, rest, fz, rfl, hb, hf, hr.mono f1, hlen⟩⟩, H⟩
theorem Buf.close {b : Nat} {cs rest : List Value} {fz : Nat × Nat} (hl : l.length = m) (hc : m ≤ c) (h63 : c ≤ 9223372036854775807) (hf : ∀ i, i < (cs ++ rest).length → ¬ (fz.1 ≤ i ∧ i < fz.2)) (hlen : (cs ++ rest).length = c * T.sz) :
    Ent (BlkF b e (cs ++ rest) fz :: ro (fun z => T.rows z cs l) :: L) (Buf T e (some ⟨b, 0, none⟩) m c l :: L) := Buf.closeO (pre := []) hl hc h63 (fun i _ hi => hf i hi) hlen

theorem Sep.changeF {w w' : World} {b E : Nat} {cs cs' : List Value} {fz : Nat × Nat} (hs : Sep κ w (BlkF b E cs fz :: L)) (hsys : Sys w w') (hb : w'.heap[b]? = some (.cells cs'.toArray E fz)) (hk : ∀ k, k ≠ b → w'.heap[k]? = w.heap[k]?) :
    Sep κ w' (BlkF b E cs' fz :: L) :=
  hs.change (b := b) (o := .cells cs.toArray E fz) (o' := .cells cs'.toArray E fz) Pick.here (fun _ _ hA => ⟨hA, fun _ hb' _ => hb'⟩) hsys hb hk
theorem Sep.blkF {w : World} {b E : Nat} {cs : List Value} {fz : Nat × Nat} (hs : Sep κ w (BlkF b E cs fz :: L)) : w.heap[b]? = some (.cells cs.toArray E fz) := by
  obtain ⟨_, z, x, a, bb, c, h1, _, _, _, _, g, _, i, _⟩ := hs
  exact c b _ (g b _ i)

theorem size_zeroCells' (z : Array Value) (k : Nat) : (Builtin.zeroCells z k).size = k * z.size := by simp [Builtin.zeroCells]

/-- append to a slice of our own. -/
theorem sep_append {T1 T2 ty bytes : Nat} {xv : Value} {w : World} (hT : ElemTy P T1 e T.sz bytes) (hT2 : NoInt P T2)
    (hp : Pick (Buf T e a m c l) L L1) (hsrc : Src P L T xv l') (h47 : (m + l'.length) * bytes ≤ 140737488355328) (h63 : m + l'.length ≤ 9223372036854775807) (hs : Sep κ w L) :
    ∃ a' c' w', (Builtin.append_ #[T1, T2] ty #[.slice a m c, xv]).run P w = .ok (.slice a' (m + l'.length) c') w' ∧ Sep κ w' (Buf T e a' (m + l'.length) c' (l ++ l') :: L1) := by
  obtain ⟨s, z, h, d1, d2, d3, H⟩ := hs
  obtain ⟨cs2, hrows2, hone, hread⟩ := hsrc z h H
  obtain ⟨hfirst, hlen⟩ := hread w d2 d3
  obtain ⟨hfirst', _⟩ := hread w.drew d2 d3
  have hs : Sep κ w (Buf T e a m c l :: L1) := ⟨s, z, h, d1, d2, d3, hp z h H⟩
  have hs2 : Sep κ w (Buf T e a m c l :: ro (fun z => T.rows z cs2 l') :: L1) := by
    obtain ⟨h1, h2, z1, g1, g2, g3, g4, hb, H2⟩ := hp z h H
    exact ⟨s, z, h, d1, d2, d3, h1, h2, z1, g1, g2, g3, g4, hb, Holds.add_ro hrows2 H2⟩
  obtain ⟨hlm, hmc, hc63⟩ := hs.buf Pick.here
  have hl2 : cs2.length = l'.length * T.sz := hrows2.1
  have hf1 := hfirst l'.length (Nat.le_refl _)
  have hf2 := hfirst' l'.length (Nat.le_refl _)
  rw [← hl2, List.take_length] at hf1 hf2
  -- the way on which it grows
  have more : c < m + l'.length → ∀ cs : List Value, (Builtin.firstCells T.sz m (.slice a m c)).run P w.drew = .ok cs.toArray w.drew → Sep κ w (ro (fun z => T.rows z cs l) :: ro (fun z => T.rows z cs2 l') :: L1) →
      ∃ a' c' w', (Builtin.append_ #[T1, T2] ty #[.slice a m c, xv]).run P w = .ok (.slice a' (m + l'.length) c') w' ∧ Sep κ w' (Buf T e a' (m + l'.length) c' (l ++ l') :: L1) := by
    intro hlt cs hcs hsep
    obtain ⟨zs, hzs, hr⟩ := run_append_more (P := P) (ty := ty) hT hT2 hlen hf2 hcs hlt h47 h63
    have hge := grownCap_ge w (m + l'.length) c e
    have hle := grownCap_le_maxLen w (m + l'.length) c e (by unfold maxLen; omega)
    generalize hC : grownCap w (m + l'.length) c e = C at *
    generalize hR : (Builtin.zeroCells zs (C - (m + l'.length))).toList = rest
    have hrl : rest.length = (C - (m + l'.length)) * T.sz := by rw [← hR]; simp [size_zeroCells', hzs]
    refine ⟨_, _, _, hr, ?_⟩
    have hs3 : Sep κ w.drew (ro (fun z => T.rows z cs l) :: ro (fun z => T.rows z cs2 l') :: L1) := hsep.drew _
    have hs4 := hs3.new (A := BlkF w.heap.size e ((cs ++ cs2) ++ rest) (0, 0)) (o := .cells ((cs ++ cs2) ++ rest).toArray e (0, 0)) (fun _ => by show Frag.one w.heap.size _ w.heap.size = some _; simp [Frag.one])
    have hcells : (cs.toArray ++ cs2.toArray ++ Builtin.zeroCells zs (C - (m + l'.length))) = ((cs ++ cs2) ++ rest).toArray := by
      apply Array.ext'; simp [← hR]
    rw [hcells]
    refine hs4.ent ?_
    refine Ent.trans (Ent.frame _ (?_ : Ent _ (ro (fun z => T.rows z (cs ++ cs2) (l ++ l')) :: L1))) (Buf.close (by simp [hlm]) hge (by simpa [maxLen] using hle) (fun i _ => by omega) ?_)
    · rintro z h ⟨h1, h2, z1, g1, g2, g3, g4, q, h3, h4, z2, g1', g2', g3', g4', q', H'⟩
      exact Holds.add_ro (Rep.rows.append (q.mono g1) (q'.mono g1')) (Holds.mono (Frag.le.refl _) (g4'.trans g4) H')
    · have hcl : cs.length = l.length * T.sz := by
        obtain ⟨z', _, hq⟩ := hsep.get_ro (R := fun z => T.rows z cs l) (List.mem_cons_self ..)
        exact hq.1
      simp only [List.length_append, hcl, hl2, hrl, hlm]
      rw [← Nat.add_mul, ← Nat.add_mul]; congr 1; omega
  rcases hs2.open_buf with ⟨rfl, rfl, rfl, rfl⟩ | ⟨b, pre, cs, rest, fz, rfl, hfz, hl, hcsl, hsF⟩
  · rcases Nat.eq_zero_or_pos l'.length with h0 | h0
    · have hl' : l' = [] := List.eq_nil_of_length_eq_zero h0
      subst hl'
      exact ⟨none, 0, w, run_append_room (P := P) (e := e) (T1 := T1) (T2 := T2) (ty := ty) (m := 0) (c := 0) (b := none) (w' := w) hT hT2 hlen hf1 (by simp) rfl, hs⟩
    · refine more (by omega) [] (by simp [Builtin.firstCells]) ?_
      refine hs2.ent (Ent.trans (Ent.drop _ _) ?_)
      exact fun z h H => Holds.add_ro (Rep.rows.nil T z) H
  · by_cases hroom : m + l'.length ≤ c
    · have hml : (m + l'.length) * T.sz ≤ c * T.sz := Nat.mul_le_mul_right _ hroom
      rw [Nat.add_mul, ← hl2, ← hcsl, ← hl] at hml
      simp only [List.length_append] at hml
      obtain ⟨w', hst, hsys, hb', hk'⟩ := run_storeCells_row (P := P) cs2 (pre ++ cs).length (pre ++ (cs ++ rest)) w hsF.blkF (fun k h1 h2 => hfz k (by simp at h1; omega) (by simp at h2 ⊢; omega)) (by simp; omega) hone (pre.length + m * T.sz) 0 (by simp; omega)
      rw [← List.append_assoc, setAt_append cs2 (pre ++ cs) rest (by omega)] at hb'
      have hs3 := hsF.changeF hsys hb' hk'
      refine ⟨some ⟨b, pre.length, none⟩, c, w', ?_, ?_⟩
      · refine run_append_room (P := P) (ty := ty) hT hT2 hlen hf1 hroom ?_
        simp only [addr_add]; exact hst
      · refine hs3.ent ?_
        rw [show pre ++ cs ++ cs2 ++ rest.drop cs2.length = pre ++ ((cs ++ cs2) ++ rest.drop cs2.length) from by simp]
        refine Ent.trans (Ent.frame _ (?_ : Ent _ (ro (fun z => T.rows z (cs ++ cs2) (l ++ l')) :: L1))) (Buf.closeO (by simp [hlm]) hroom hc63 (fun i hp hi => hfz i hp ?_) ?_)
        · rintro z h ⟨h1, h2, z1, g1, g2, g3, g4, q, h3, h4, z2, g1', g2', g3', g4', q', H'⟩
          exact Holds.add_ro (Rep.rows.append (q.mono g1) (q'.mono g1')) (Holds.mono (Frag.le.refl _) (g4'.trans g4) H')
        · simp only [List.length_append, List.length_drop] at hi ⊢; omega
        · rw [← hl]; simp only [List.length_append, List.length_drop]; omega
    · refine more (by omega) cs ?_ ?_
      · have hh : (w.drew.heap[b]?) = some (.cells (pre ++ (cs ++ rest)).toArray e fz) := hsF.blkF
        refine run_firstCells_some w.drew T.sz m _ m c cs hcsl fun j u hj => ?_
        rw [addr_add]
        have hj' : j < cs.length := (List.getElem?_eq_some_iff.1 hj).1
        simp [World.cell?, hh, List.getElem?_append_right, List.getElem?_append_left hj', hj]
      · exact hsF.ent (Ent.drop _ _)

theorem E.append {T1 T2 bytes : Nat} {xs : Array Operand} {ts : Array TypeId} {sx xx : Operand} {xv : Value} (ho : o.op = .call ⟨.builtin .append, xs, ts⟩) (hxs : xs = #[sx, xx]) (hts : ts = #[T1, T2]) (hT : ElemTy P T1 e T.sz bytes) (hT2 : NoInt P T2)
    (hx : ev al sx = some (.slice a m c)) (hy : ev al xx = some xv) (hp : Pick (Buf T e a m c l) L L1) (hsrc : Src P L T xv l') (h47 : (m + l'.length) * bytes ≤ 140737488355328) (h63 : m + l'.length ≤ 9223372036854775807) :
    OpE P n κ al L o fun v M => ∃ a' c', v = .slice a' (m + l'.length) c' ∧ M = Buf T e a' (m + l'.length) c' (l ++ l') :: L1 := OpE.of_run fun a' w he hs => by
  subst hxs; subst hts
  obtain ⟨a2, c2, w', hr, hs'⟩ := sep_append (ty := o.type) hT hT2 hp hsrc h47 h63 hs
  refine ⟨_, w', _, .inl ?_, ⟨a2, c2, rfl, rfl⟩, hs'⟩
  simp [execOp, ho, resolve, invoke, builtin, he.ev hx, he.ev hy, hr]
end
end Go.Wk

namespace Go.Wk

def zipAl : Nat → List Value → List (Nat × Value)
  | _, [] => []
  | k, v :: r => (k, v) :: zipAl (k + 1) r
theorem look_zipAl : ∀ (vs : List Value) (k t : Nat) (v : Value), look (zipAl k vs) t = some v → k ≤ t ∧ vs[t - k]? = some v
  | [], _, _, _, h => by cases h
  | u :: r, k, t, v, h => by
    simp only [zipAl, look_cons] at h
    split at h
    · rename_i e; subst e; cases h; exact ⟨Nat.le_refl _, by simp⟩
    · obtain ⟨h1, h2⟩ := look_zipAl r (k + 1) t v h
      refine ⟨by omega, ?_⟩
      rw [show t - k = (t - (k + 1)) + 1 from by omega]
      simpa using h2

section
variable {P : Program} {f : FuncId} {n : Nat} {κ : World} {K : Post} {L L1 : List Assn} {al : List (Nat × Value)} {o : Oper} {v : Value}

theorem Ctr.enter {fn : Func} {c : Code} {vs : List Value} (hf : P.funcs[f]? = some fn) (hb : fn.body = some c) {al : List (Nat × Value)} (hal : zipAl 0 vs = al) {m : Nat} (hm : vs.length + (fn.ntmps - vs.length) = m)
    (h : SG P f m κ K [.code c] al L) : Ctr P f vs.toArray κ L K := by
  subst hal
  have hm' : vs.toArray.size + (fn.ntmps - vs.toArray.size) = m := by simpa using hm
  refine Ctr.intro hf hb (zipAl 0 vs) (Env.enter fun t v ht => ?_) (by rw [hm']; exact h)
  have := (look_zipAl vs 0 t v ht).2
  simpa using this

def elemTyB (P : Program) (T e sz bytes : Nat) : Bool := match P.underlying T with
  | some (.slice e') => e' == e && (match P.info? e with
    | some i => i.size == sz && i.bytes == bytes && (match i.zero with | some z => z.cells.size == sz | none => false)
    | none => false)
  | _ => false
theorem elemTy_of {T e sz bytes : Nat} (h : elemTyB P T e sz bytes = true) : ElemTy P T e sz bytes := by
  unfold elemTyB at h
  split at h
  · rename_i e' h1
    simp only [Bool.and_eq_true, beq_iff_eq] at h
    obtain ⟨rfl, h⟩ := h
    split at h
    · rename_i i h2
      simp only [Bool.and_eq_true, beq_iff_eq] at h
      obtain ⟨⟨h3, h4⟩, h5⟩ := h
      split at h5
      · rename_i z h6
        exact ⟨i, z, h1, h2, h3, h4, h6, by simpa using h5⟩
      · cases h5
    · cases h
  · cases h
theorem ElemTy.slice {T e sz bytes : Nat} (h : ElemTy P T e sz bytes) : SliceTy P T e sz := let ⟨i, _, a, b, c, _⟩ := h; ⟨i, a, b, c⟩
theorem ElemTy.noInt {T e sz bytes : Nat} (h : ElemTy P T e sz bytes) : NoInt P T := let ⟨_, _, a, _⟩ := h; .inl ⟨_, a⟩
theorem ElemTy.under {T e sz bytes : Nat} (h : ElemTy P T e sz bytes) : P.underlying T = some (.slice e) := let ⟨_, _, a, _⟩ := h; a
theorem zero_of {T : TypeId} {zs : List Value} (h : (P.info? T).map (fun i => i.zero.map fun z => z.cells) = some (some zs.toArray)) : Zero P T zs := by
  cases hi : P.info? T with
  | none => rw [hi] at h; cases h
  | some i =>
    rw [hi] at h
    simp only [Option.map_some, Option.some.injEq] at h
    cases hz : i.zero with
    | none => rw [hz] at h; cases h
    | some z => rw [hz] at h; exact ⟨i, z, hi, hz, by simpa using h⟩
def arrTyB (P : Program) (T len e sz : Nat) : Bool := match P.underlying T with
  | some (.array len' e') => len' == len && e' == e && (match P.info? e with | some i => i.size == sz | none => false)
  | _ => false
theorem arrTy_of {T len e sz : Nat} (h : arrTyB P T len e sz = true) : ArrTy P T len e sz := by
  unfold arrTyB at h
  split at h
  · rename_i len' e' h1
    simp only [Bool.and_eq_true, beq_iff_eq] at h
    obtain ⟨⟨rfl, rfl⟩, h⟩ := h
    split at h
    · rename_i i h2; exact ⟨i, h1, h2, by simpa using h⟩
    · cases h
  · cases h
theorem buildA_of {T len e sz : Nat} {zs : List Value} (hz : Zero P T zs) (ha : ArrTy P T len e sz) : BuildA P T zs len sz := let ⟨i, a, b, c⟩ := ha; ⟨hz, e, i, a, b, c⟩
theorem isGo_of {fn : Func} (hf : P.funcs[f]? = some fn) (h : (!(fn.name == "runtime.NumGoroutine") && fn.body.isSome) = true) : IsGo P f := by
  simp only [Bool.and_eq_true, Bool.not_eq_true'] at h
  exact ⟨fn, hf, h.1, by rw [← Option.not_isSome, h.2]; rfl⟩
theorem size_of {T m : Nat} (h : (P.info? T).map (·.size) = some m) : ∃ ti, P.info? T = some ti ∧ ti.size = m := by
  cases hi : P.info? T with
  | none => rw [hi] at h; cases h
  | some i => exact ⟨i, rfl, by rw [hi] at h; simpa using h⟩

/- min, max -/
theorem V.min {xs : Array Operand} {ts : Array TypeId} {x y : Operand} {k : IntKind} {i j : Int} (ho : o.op = .call ⟨.builtin .min, xs, ts⟩) (hxs : xs = #[x, y]) (hx : ev al x = some (.int k i)) (hy : ev al y = some (.int k j)) : OpV P n κ al L o (.int k (if j < i then j else i)) := V.of_run fun a' w he => by
  subst hxs
  simp [execOp, ho, resolve, invoke, builtin, Builtin.min_, Builtin.min2, he.ev hx, he.ev hy]
theorem V.max {xs : Array Operand} {ts : Array TypeId} {x y : Operand} {k : IntKind} {i j : Int} (ho : o.op = .call ⟨.builtin .max, xs, ts⟩) (hxs : xs = #[x, y]) (hx : ev al x = some (.int k i)) (hy : ev al y = some (.int k j)) : OpV P n κ al L o (.int k (if i < j then j else i)) := V.of_run fun a' w he => by
  subst hxs
  simp [execOp, ho, resolve, invoke, builtin, Builtin.max_, Builtin.max2, he.ev hx, he.ev hy]

/- Conversions -/
theorem V.toInt {S D : TypeId} {x : Operand} {k k' : IntKind} {i : Int} (ho : o.op = .convert S D x) (hS : ∃ d, P.underlying S = some d) (hD : P.underlying D = some (.int k')) (hx : ev al x = some (.int k i)) : OpV P n κ al L o (.int k' (k'.wrap i)) := V.of_run fun a' w he => by
  obtain ⟨d, hd⟩ := hS
  simp [execOp, ho, convert, run_underlying hd, run_underlying hD, he.ev hx, Conv.intToInt]
end
end Go.Wk

namespace Go.Wk

section
variable {P : Program} {f : FuncId} {n : Nat} {κ : World} {K : Post} {k : List Item} {L L1 L' L0 M : List Assn} {al al' : List (Nat × Value)} {o : Oper} {v : Value} {ops : Array Oper} {rest : List Oper} {α : Type} {T : Rep α} {a : Option Addr} {m c : Nat} {l l' : List α} {e : TypeId}

/- 1. TESTS -/
theorem RL.cmp {p : Prop} [Decidable p] (hw : Wanted n ops o al true) (hv : OpV P n κ al L o (.bool (decide p))) (hd : fits n o.dst = true)
    (h1 : p → RL P f n κ K k ops rest (upd al o.dst (.bool true)) L) (h2 : ¬p → RL P f n κ K k ops rest (upd al o.dst (.bool false)) L) : RL P f n κ K k ops (o :: rest) al L := by
  by_cases hp : p
  · exact RL.val hw hv hd (by rw [decide_eq_true hp]; exact h1 hp)
  · exact RL.val hw hv hd (by rw [decide_eq_false hp]; exact h2 hp)
theorem RL.cmpT {p : Prop} [Decidable p] (hw : Wanted n ops o al true) (hv : OpV P n κ al L o (.bool (decide p))) (hd : fits n o.dst = true) (hp : p)
    (h1 : RL P f n κ K k ops rest (upd al o.dst (.bool true)) L) : RL P f n κ K k ops (o :: rest) al L := RL.cmp hw hv hd (fun _ => h1) (fun h => absurd hp h)
theorem RL.cmpF {p : Prop} [Decidable p] (hw : Wanted n ops o al true) (hv : OpV P n κ al L o (.bool (decide p))) (hd : fits n o.dst = true) (hp : ¬p)
    (h1 : RL P f n κ K k ops rest (upd al o.dst (.bool false)) L) : RL P f n κ K k ops (o :: rest) al L := RL.cmp hw hv hd (fun h => absurd h hp) (fun _ => h1)
theorem EnvLe.dup {d : Nat} {u : Value} (h : look al d = some u) : EnvLe ((d, u) :: al) al := EnvLe.cons h (EnvLe.refl _)
theorem RL.split (d : Nat) {t : Bool} (hl : look al d = some (.bool t)) (h1 : t = true → RL P f n κ K k ops rest ((d, .bool true) :: al) L) (h2 : t = false → RL P f n κ K k ops rest ((d, .bool false) :: al) L) : RL P f n κ K k ops rest al L := by
  cases t with
  | true => exact (h1 rfl).weaken (EnvLe.dup hl) (Ent.refl _)
  | false => exact (h2 rfl).weaken (EnvLe.dup hl) (Ent.refl _)
theorem SG.split (d : Nat) {t : Bool} (hl : look al d = some (.bool t)) (h1 : t = true → SG P f n κ K k ((d, .bool true) :: al) L) (h2 : t = false → SG P f n κ K k ((d, .bool false) :: al) L) : SG P f n κ K k al L := by
  cases t with
  | true => exact (h1 rfl).weaken (EnvLe.dup hl) (Ent.refl _)
  | false => exact (h2 rfl).weaken (EnvLe.dup hl) (Ent.refl _)
theorem SG.let_ {d : Nat} {u u' : Value} (hl : look al d = some u) (he : u = u') (h : SG P f n κ K k ((d, u') :: al) L) : SG P f n κ K k al L := by
  subst he; exact h.weaken (EnvLe.dup hl) (Ent.refl _)
theorem RL.let_ {d : Nat} {u u' : Value} (hl : look al d = some u) (he : u = u') (h : RL P f n κ K k ops rest ((d, u') :: al) L) : RL P f n κ K k ops rest al L := by
  subst he; exact h.weaken (EnvLe.dup hl) (Ent.refl _)

section
variable {listed : Array Bool} {x fuel : Nat}
theorem RH.cmp {p : Prop} [Decidable p] (i : Nat) (hi : ops[i]? = some o) (hs : Region.noSelect ops = true) (hf : Region.free .any ops listed i = true) (hr : (Region.ready .any ops listed).contains i = true) (hx : (waits .any ops x i && !listed.getD x false && !(Nat.beq i x)) = true)
    (hw : Wanted n ops o al true) (hv : OpV P n κ al L0 o (.bool (decide p))) (hd : fits n o.dst = true)
    (h1 : p → RH P f n κ K k ops L0 x fuel (listed.setIfInBounds i true) (upd al o.dst (.bool true)) L) (h2 : ¬p → RH P f n κ K k ops L0 x fuel (listed.setIfInBounds i true) (upd al o.dst (.bool false)) L) : RH P f n κ K k ops L0 x (fuel + 1) listed al L := by
  by_cases hp : p
  · exact RH.val i hi hs hf hr hx hw hv hd (by rw [decide_eq_true hp]; exact h1 hp)
  · exact RH.val i hi hs hf hr hx hw hv hd (by rw [decide_eq_false hp]; exact h2 hp)
theorem RH.cmpT {p : Prop} [Decidable p] (i : Nat) (hi : ops[i]? = some o) (hs : Region.noSelect ops = true) (hf : Region.free .any ops listed i = true) (hr : (Region.ready .any ops listed).contains i = true) (hx : (waits .any ops x i && !listed.getD x false && !(Nat.beq i x)) = true)
    (hw : Wanted n ops o al true) (hv : OpV P n κ al L0 o (.bool (decide p))) (hd : fits n o.dst = true) (hp : p)
    (h1 : RH P f n κ K k ops L0 x fuel (listed.setIfInBounds i true) (upd al o.dst (.bool true)) L) : RH P f n κ K k ops L0 x (fuel + 1) listed al L := RH.cmp i hi hs hf hr hx hw hv hd (fun _ => h1) (fun h => absurd hp h)
theorem RH.cmpF {p : Prop} [Decidable p] (i : Nat) (hi : ops[i]? = some o) (hs : Region.noSelect ops = true) (hf : Region.free .any ops listed i = true) (hr : (Region.ready .any ops listed).contains i = true) (hx : (waits .any ops x i && !listed.getD x false && !(Nat.beq i x)) = true)
    (hw : Wanted n ops o al true) (hv : OpV P n κ al L0 o (.bool (decide p))) (hd : fits n o.dst = true) (hp : ¬p)
    (h1 : RH P f n κ K k ops L0 x fuel (listed.setIfInBounds i true) (upd al o.dst (.bool false)) L) : RH P f n κ K k ops L0 x (fuel + 1) listed al L := RH.cmp i hi hs hf hr hx hw hv hd (fun h => absurd h hp) (fun _ => h1)
theorem RH.cmpP {p : Prop} [Decidable p] (i : Nat) (hi : ops[i]? = some o) (hs : Region.noSelect ops = true) (hf : Region.free .any ops listed i = true) (hr : (Region.ready .any ops listed).contains i = true) (hx : Nat.beq i x = false)
    (hw : Wanted n ops o al true) (hv : OpV P n κ al [] o (.bool (decide p))) (hd : fits n o.dst = true)
    (h1 : p → RH P f n κ K k ops L0 x fuel (listed.setIfInBounds i true) (upd al o.dst (.bool true)) L) (h2 : ¬p → RH P f n κ K k ops L0 x fuel (listed.setIfInBounds i true) (upd al o.dst (.bool false)) L) : RH P f n κ K k ops L0 x (fuel + 1) listed al L := by
  by_cases hp : p
  · exact RH.pure i hi hs hf hr hx hw hv hd (by rw [decide_eq_true hp]; exact h1 hp)
  · exact RH.pure i hi hs hf hr hx hw hv hd (by rw [decide_eq_false hp]; exact h2 hp)
theorem RH.cmpPT {p : Prop} [Decidable p] (i : Nat) (hi : ops[i]? = some o) (hs : Region.noSelect ops = true) (hf : Region.free .any ops listed i = true) (hr : (Region.ready .any ops listed).contains i = true) (hx : Nat.beq i x = false)
    (hw : Wanted n ops o al true) (hv : OpV P n κ al [] o (.bool (decide p))) (hd : fits n o.dst = true) (hp : p)
    (h1 : RH P f n κ K k ops L0 x fuel (listed.setIfInBounds i true) (upd al o.dst (.bool true)) L) : RH P f n κ K k ops L0 x (fuel + 1) listed al L := RH.cmpP i hi hs hf hr hx hw hv hd (fun _ => h1) (fun h => absurd hp h)
theorem RH.cmpPF {p : Prop} [Decidable p] (i : Nat) (hi : ops[i]? = some o) (hs : Region.noSelect ops = true) (hf : Region.free .any ops listed i = true) (hr : (Region.ready .any ops listed).contains i = true) (hx : Nat.beq i x = false)
    (hw : Wanted n ops o al true) (hv : OpV P n κ al [] o (.bool (decide p))) (hd : fits n o.dst = true) (hp : ¬p)
    (h1 : RH P f n κ K k ops L0 x fuel (listed.setIfInBounds i true) (upd al o.dst (.bool false)) L) : RH P f n κ K k ops L0 x (fuel + 1) listed al L := RH.cmpP i hi hs hf hr hx hw hv hd (fun h => absurd h hp) (fun _ => h1)
theorem RH.weaken (h : RH P f n κ K k ops L0 x fuel listed al L) (ha : EnvLe al al') (hL : Ent L' L) : RH P f n κ K k ops L0 x fuel listed al' L' := fun a w he hs hn => h a w (he.le ha) (hs.ent hL) hn
theorem RH.split (d : Nat) {t : Bool} (hl : look al d = some (.bool t)) (h1 : t = true → RH P f n κ K k ops L0 x fuel listed ((d, .bool true) :: al) L) (h2 : t = false → RH P f n κ K k ops L0 x fuel listed ((d, .bool false) :: al) L) : RH P f n κ K k ops L0 x fuel listed al L := by
  cases t with
  | true => exact (h1 rfl).weaken (EnvLe.dup hl) (Ent.refl _)
  | false => exact (h2 rfl).weaken (EnvLe.dup hl) (Ent.refl _)
end

/- 2. RETURNS -/
theorem SG.retE (hr : ReturnsOf P f n κ al L v) (hE : Ent L M) (hK : K v M) : SG P f n κ K (.code .ret :: k) al L := by
  intro a w he hs cs
  obtain ⟨fn, hf, hr⟩ := hr
  exact ⟨v, w, _, ⟨M, hK, hs.ent hE⟩, .one step_ret, rfl, rfl, he.defers, rfl, fn, hf, hr a w he hs⟩
theorem SG.doneE (hr : ReturnsOf P f n κ al L v) (hE : Ent L M) (hK : K v M) : SG P f n κ K [] al L := by
  intro a w he hs cs
  obtain ⟨fn, hf, hr⟩ := hr
  exact ⟨v, w, _, ⟨M, hK, hs.ent hE⟩, .one step_end, rfl, rfl, he.defers, rfl, fn, hf, hr a w he hs⟩

/-- What a result's slot or cell holds. -/
inductive ResIs (P : Program) (al : List (Nat × Value)) (L : List Assn) : ResultVar → Value → Prop
  | tmp {t : Tmp} {u : Value} (h : look al t = some u) : ResIs P al L (.tmp t) u
  | cell {t : Tmp} {T b i E : Nat} {cs : List Value} {L1 : List Assn} {u : Value} (h : look al t = some (ptr b i)) (hT : One P T) (hp : Pick (Blk b E cs) L L1) (hc : cs[i]? = some u) : ResIs P al L (.cell t T) u
  | agg {t : Tmp} {T b i E m : Nat} {cs us : List Value} {L1 : List Assn} (h : look al t = some (ptr b i)) (hT : Agg P T m) (hp : Pick (Blk b E cs) L L1) (hc : (cs.drop i).take m = us) (hm : us.length = m) : ResIs P al L (.cell t T) (.agg us.toArray)

theorem run_load_one {T b i E : Nat} {cs : List Value} {u : Value} {w : World} (hT : One P T) (hs : Sep κ w L) (hp : Pick (Blk b E cs) L L1) (hc : cs[i]? = some u) : (loadVar T ⟨b, i, none⟩).run P w = .ok u w := by
  have hcell := cell_of_blk hs hp hc
  simp [loadVar, hT.agg w, hcell]
theorem run_load_agg {T b i E m : Nat} {cs us : List Value} {w : World} (hT : Agg P T m) (hs : Sep κ w L) (hp : Pick (Blk b E cs) L L1) (hc : (cs.drop i).take m = us) (hm : us.length = m) : (loadVar T ⟨b, i, none⟩).run P w = .ok (.agg us.toArray) w := by
  have hl : (loadCells ⟨b, i, none⟩ us.length).run P w = .ok us.toArray w := by
    refine run_loadCells_list w _ us fun j u hj => ?_
    rw [addr_add]
    refine cell_of_blk hs hp ?_
    rw [← hc, List.getElem?_take] at hj
    split at hj
    · simpa using hj
    · cases hj
  have hg := hT.agg w
  obtain ⟨d, ti, h1, h2, h3, h4⟩ := hT
  rw [← h4] at hm
  rw [hm] at hl
  simp [loadVar, hg, run_sizeOf_info h3, hl]

theorem ResIs.run {r : ResultVar} {u : Value} (h : ResIs P al L r u) {a' : Act} {w : World} (he : Env n al a') (hs : Sep κ w L) :
    (∃ t, r = .tmp t ∧ a'.tmps.getD t undef = u) ∨ ∃ t T ad, r = .cell t T ∧ a'.tmps.getD t undef = .pointer (some ad) ∧ (loadVar T ad).run P w = .ok u w := by
  cases h with
  | tmp h => exact .inl ⟨_, rfl, he.get _ _ h⟩
  | cell h hT hp hc => exact .inr ⟨_, _, _, rfl, he.get _ _ h, run_load_one hT hs hp hc⟩
  | agg h hT hp hc hm => exact .inr ⟨_, _, _, rfl, he.get _ _ h, run_load_agg hT hs hp hc hm⟩

theorem Ret.r1 {fn : Func} {r : ResultVar} {u : Value} (hf : P.funcs[f]? = some fn) (hr : fn.results = #[r]) (h : ResIs P al L r u) : ReturnsOf P f n κ al L u := ⟨fn, hf, fun a w he hs => by
  rcases h.run he hs with ⟨t, rfl, h1⟩ | ⟨t, T, ad, rfl, h1, h2⟩ <;> simp_all [results, asAddr]⟩
theorem Ret.r2 {fn : Func} {r s : ResultVar} {u u' : Value} (hf : P.funcs[f]? = some fn) (hr : fn.results = #[r, s]) (h : ResIs P al L r u) (h' : ResIs P al L s u') : ReturnsOf P f n κ al L (.tuple #[u, u']) := ⟨fn, hf, fun a w he hs => by
  rcases h.run he hs with ⟨t, rfl, h1⟩ | ⟨t, T, ad, rfl, h1, h2⟩ <;> rcases h'.run he hs with ⟨t', rfl, h1'⟩ | ⟨t', T', ad', rfl, h1', h2'⟩ <;> simp_all [results, asAddr]⟩
theorem Ret.r3 {fn : Func} {r s t : ResultVar} {u u' u'' : Value} (hf : P.funcs[f]? = some fn) (hr : fn.results = #[r, s, t]) (h : ResIs P al L r u) (h' : ResIs P al L s u') (h'' : ResIs P al L t u'') : ReturnsOf P f n κ al L (.tuple #[u, u', u'']) := ⟨fn, hf, fun a w he hs => by
  rcases h.run he hs with ⟨t, rfl, h1⟩ | ⟨t, T, ad, rfl, h1, h2⟩ <;> rcases h'.run he hs with ⟨t', rfl, h1'⟩ | ⟨t', T', ad', rfl, h1', h2'⟩ <;>
    rcases h''.run he hs with ⟨t'', rfl, h1''⟩ | ⟨t'', T'', ad'', rfl, h1'', h2''⟩ <;> simp_all [results, asAddr]⟩

/- 3. FACTS ON LENGTHS -/
theorem Ctr.sl {args : Array Value} (hm : Sl T a m c l ∈ L) (h : l.length = m → m ≤ c → c ≤ 9223372036854775807 → Ctr P f args κ L K) : Ctr P f args κ L K := fun w hs => by
  obtain ⟨z, _, h1, h2, h3, _⟩ := hs.sl hm
  exact h h1 h2 h3 w hs
theorem SG.sl (hm : Sl T a m c l ∈ L) (h : l.length = m → m ≤ c → c ≤ 9223372036854775807 → SG P f n κ K k al L) : SG P f n κ K k al L := fun a' w he hs => by
  obtain ⟨z, _, h1, h2, h3, _⟩ := hs.sl hm
  exact h h1 h2 h3 a' w he hs
theorem RL.sl (hm : Sl T a m c l ∈ L) (h : l.length = m → m ≤ c → c ≤ 9223372036854775807 → RL P f n κ K k ops rest al L) : RL P f n κ K k ops rest al L := fun a' w he hs => by
  obtain ⟨z, _, h1, h2, h3, _⟩ := hs.sl hm
  exact h h1 h2 h3 a' w he hs
theorem SG.buf (hp : Pick (Buf T e a m c l) L L1) (h : l.length = m → m ≤ c → c ≤ 9223372036854775807 → SG P f n κ K k al L) : SG P f n κ K k al L := fun a' w he hs => by
  obtain ⟨h1, h2, h3⟩ := hs.buf hp
  exact h h1 h2 h3 a' w he hs
theorem RL.ent (hL : Ent L L') (h : RL P f n κ K k ops rest al L') : RL P f n κ K k ops rest al L := h.weaken (EnvLe.refl _) hL
theorem SG.ent (hL : Ent L L') (h : SG P f n κ K k al L') : SG P f n κ K k al L := h.weaken (EnvLe.refl _) hL
/-- A fact that memory shows. -/
theorem Ctr.fact {args : Array Value} {p : Prop} (hp : ∀ w, Sep κ w L → p) (h : p → Ctr P f args κ L K) : Ctr P f args κ L K := fun w hs => h (hp w hs) w hs
theorem SG.fact {p : Prop} (hp : ∀ w, Sep κ w L → p) (h : p → SG P f n κ K k al L) : SG P f n κ K k al L := fun a' w he hs => h (hp w hs) a' w he hs
theorem RL.fact {p : Prop} (hp : ∀ w, Sep κ w L → p) (h : p → RL P f n κ K k ops rest al L) : RL P f n κ K k ops rest al L := fun a' w he hs => h (hp w hs) a' w he hs
theorem Pick.sl (hm : Sl T a m c l ∈ L) : Pick (Sl T a m c l) L L := Pick.ro hm
theorem Pick.rd {cs : List Value} {y : α} (hm : Rd T cs y ∈ L) : Pick (Rd T cs y) L L := Pick.ro hm

theorem RL.publish (hp : Pick (Buf T e a m c l) L L1) (h : RL P f n κ K k ops rest al (Sl T a m c l :: L1)) : RL P f n κ K k ops rest al L := RL.sep ⟨Buf.publish (fun h => h.ent hp), h⟩
theorem SG.publish (hp : Pick (Buf T e a m c l) L L1) (h : SG P f n κ K k al (Sl T a m c l :: L1)) : SG P f n κ K k al L := SG.sep ⟨Buf.publish (fun h => h.ent hp), h⟩

/- 4. BYTES AND STRINGS -/
theorem loadCells_bytes {w : World} {z : Frag} {b off : Nat} {l : List UInt8} (hz : z.le (Frag.of w)) (hr : Row z b off (l.map v8)) : (loadCells ⟨b, off, none⟩ l.length).run P w = .ok (l.map v8).toArray w := by
  have := run_loadCells_list (P := P) w ⟨b, off, none⟩ (l.map v8) (fun j u hj => by rw [addr_add]; exact cell_of_row hz hr hj)
  simpa using this

theorem foldl_push (l : List UInt8) (s : List UInt8) : l.foldl (fun (r : ByteArray) x => r.push x) ⟨⟨s⟩⟩ = ⟨⟨s ++ l⟩⟩ := by
  induction l generalizing s with
  | nil => simp
  | cons x l ih =>
    rw [List.foldl_cons, show (⟨⟨s⟩⟩ : ByteArray).push x = ⟨⟨s ++ [x]⟩⟩ from by simp [ByteArray.push], ih]
    simp

theorem run_bytesToS {w : World} {z : Frag} {b off cap : Nat} {l : List UInt8} (hz : z.le (Frag.of w)) (hr : Row z b off (l.map v8)) : (Conv.bytesToString (.slice (some ⟨b, off, none⟩) l.length cap)).run P w = .ok (vS l) w := by
  have h := run_bytesToString (P := P) w ⟨b, off, none⟩ l.length cap (l.map fun c => (c.toNat : Int))
    (by have := loadCells_bytes (P := P) hz hr; simpa [List.map_map, Function.comp_def] using this)
  rw [h]
  congr 2
  rw [List.foldl_map]
  have e : (fun (r : ByteArray) (c : UInt8) => r.push (UInt8.ofNat ((c.toNat : Int).toNat))) = fun r c => r.push c := by funext r c; simp
  rw [e]
  exact foldl_push l []

theorem V.bytesToS {S D E' : TypeId} {x : Operand} {l : List UInt8} (ho : o.op = .convert S D x) (hS : P.underlying S = some (.slice E')) (hE : P.underlying E' = some (.int .u8)) (hD : P.underlying D = some .string) (hx : ev al x = some (.slice a m c)) (hm : Sl R8 a m c l ∈ L) :
    OpV P n κ al L o (vS l) := fun a' w he hs => by
  obtain ⟨z, hz, h1, _, _, h4⟩ := hs.sl hm
  have hrun : (Conv.bytesToString (.slice a m c)).run P w = .ok (vS l) w := by
    rcases h4 with h4 | ⟨b, off, cs, rfl, hr, hrows⟩
    · subst h4
      have hl : l = [] := List.eq_nil_of_length_eq_zero h1
      subst hl
      cases a with
      | none => rfl
      | some a => simp [Conv.bytesToString, loadCells, loadCellsFrom]; rfl
    · obtain ⟨rfl, _⟩ := rows_sc.1 hrows
      rw [← h1]; exact run_bytesToS hz hr
  simp [execOp, ho, convert, run_underlying hS, run_underlying hD, run_underlying hE, he.ev hx, hrun]
end
end Go.Wk

namespace Go.Wk
section
variable {P : Program} {n : Nat} {κ : World} {al : List (Nat × Value)} {L : List Assn} {o : Oper}

theorem wrap8 (x : Int) : IntKind.u8.wrap x = ((UInt8.ofNat (x % 256).toNat).toNat : Int) := by
  rw [IntKind.wrap_u8]; simp [UInt8.toNat_ofNat']; omega
theorem wrap32 (x : Int) : IntKind.u32.wrap x = ((UInt32.ofNat (x % 4294967296).toNat).toNat : Int) := by
  rw [IntKind.wrap_u32]; simp [UInt32.toNat_ofNat']; omega
theorem wrap64 (x : Int) : IntKind.u64.wrap x = ((UInt64.ofNat (x % 18446744073709551616).toNat).toNat : Int) := by
  rw [IntKind.wrap_u64]; simp [UInt64.toNat_ofNat']; omega

theorem B.add8 {x y : UInt8} : BinRun P .add (v8 x) (v8 y) (v8 (x + y)) := by
  have h := B.add (P := P) (k := .u8) (x := x.toNat) (y := y.toNat)
  rwa [show IntKind.u8.wrap ((x.toNat : Int) + y.toNat) = ((x + y).toNat : Int) from by rw [IntKind.wrap_u8]; simp [UInt8.toNat_add]] at h
theorem B.sub8 {x y : UInt8} : BinRun P .sub (v8 x) (v8 y) (v8 (x - y)) := by
  have h := B.sub (P := P) (k := .u8) (x := x.toNat) (y := y.toNat)
  rwa [show IntKind.u8.wrap ((x.toNat : Int) - y.toNat) = ((x - y).toNat : Int) from by
    rw [IntKind.wrap_u8, UInt8.toNat_sub]; have := y.toNat_lt; have := x.toNat_lt; omega] at h
theorem B.mul8 {x y : UInt8} : BinRun P .mul (v8 x) (v8 y) (v8 (x * y)) := by
  have h := B.mul (P := P) (k := .u8) (x := x.toNat) (y := y.toNat)
  rwa [show IntKind.u8.wrap ((x.toNat : Int) * y.toNat) = ((x * y).toNat : Int) from by rw [IntKind.wrap_u8]; simp [UInt8.toNat_mul]] at h
theorem B.add32 {x y : UInt32} : BinRun P .add (v32 x) (v32 y) (v32 (x + y)) := by
  have h := B.add (P := P) (k := .u32) (x := x.toNat) (y := y.toNat)
  rwa [show IntKind.u32.wrap ((x.toNat : Int) + y.toNat) = ((x + y).toNat : Int) from by rw [IntKind.wrap_u32]; simp [UInt32.toNat_add]] at h
theorem B.mul32 {x y : UInt32} : BinRun P .mul (v32 x) (v32 y) (v32 (x * y)) := by
  have h := B.mul (P := P) (k := .u32) (x := x.toNat) (y := y.toNat)
  rwa [show IntKind.u32.wrap ((x.toNat : Int) * y.toNat) = ((x * y).toNat : Int) from by rw [IntKind.wrap_u32]; simp [UInt32.toNat_mul]] at h
theorem B.add64 {x y : UInt64} : BinRun P .add (v64 x) (v64 y) (v64 (x + y)) := by
  have h := B.add (P := P) (k := .u64) (x := x.toNat) (y := y.toNat)
  rwa [show IntKind.u64.wrap ((x.toNat : Int) + y.toNat) = ((x + y).toNat : Int) from by rw [IntKind.wrap_u64]; simp [UInt64.toNat_add]] at h
theorem B.sub64 {x y : UInt64} : BinRun P .sub (v64 x) (v64 y) (v64 (x - y)) := by
  have h := B.sub (P := P) (k := .u64) (x := x.toNat) (y := y.toNat)
  rwa [show IntKind.u64.wrap ((x.toNat : Int) - y.toNat) = ((x - y).toNat : Int) from by
    rw [IntKind.wrap_u64, UInt64.toNat_sub]; have := y.toNat_lt; have := x.toNat_lt; omega] at h
theorem B.mul64 {x y : UInt64} : BinRun P .mul (v64 x) (v64 y) (v64 (x * y)) := by
  have h := B.mul (P := P) (k := .u64) (x := x.toNat) (y := y.toNat)
  rwa [show IntKind.u64.wrap ((x.toNat : Int) * y.toNat) = ((x * y).toNat : Int) from by rw [IntKind.wrap_u64]; simp [UInt64.toNat_mul]] at h

theorem B.rem8 {x y : UInt8} (hy : y.toNat ≠ 0) : BinRun P .rem (v8 x) (v8 y) (v8 (x % y)) := by
  have h := B.rem (P := P) (k := .u8) (x := x.toNat) (y := y.toNat) (by omega)
  rwa [show ((x.toNat : Int)).tmod y.toNat = ((x % y).toNat : Int) from by rw [UInt8.toNat_mod]; rfl] at h
theorem B.quo8 {x y : UInt8} (hy : y.toNat ≠ 0) : BinRun P .quo (v8 x) (v8 y) (v8 (x / y)) := by
  have h := B.quo (P := P) (k := .u8) (x := x.toNat) (y := y.toNat) (by omega)
  rwa [show IntKind.u8.wrap (((x.toNat : Int)).tdiv y.toNat) = ((x / y).toNat : Int) from by
    have e : ((x.toNat : Int)).tdiv y.toNat = ((x / y).toNat : Int) := by rw [UInt8.toNat_div]; rfl
    rw [e, IntKind.wrap_u8]; have := (x / y).toNat_lt; omega] at h
theorem B.rem64 {x y : UInt64} (hy : y.toNat ≠ 0) : BinRun P .rem (v64 x) (v64 y) (v64 (x % y)) := by
  have h := B.rem (P := P) (k := .u64) (x := x.toNat) (y := y.toNat) (by omega)
  rwa [show ((x.toNat : Int)).tmod y.toNat = ((x % y).toNat : Int) from by rw [UInt64.toNat_mod]; rfl] at h
theorem B.quo64 {x y : UInt64} (hy : y.toNat ≠ 0) : BinRun P .quo (v64 x) (v64 y) (v64 (x / y)) := by
  have h := B.quo (P := P) (k := .u64) (x := x.toNat) (y := y.toNat) (by omega)
  rwa [show IntKind.u64.wrap (((x.toNat : Int)).tdiv y.toNat) = ((x / y).toNat : Int) from by
    have e : ((x.toNat : Int)).tdiv y.toNat = ((x / y).toNat : Int) := by rw [UInt64.toNat_div]; rfl
    rw [e, IntKind.wrap_u64]; have := (x / y).toNat_lt; omega] at h

theorem B.bits {op : BinOp} {k : IntKind} {x y z : Int} {r : BitVec k.bits} (hz : k.wrap r.toNat = z) (hop : (op = .and ∧ r = BitVec.ofInt k.bits x &&& BitVec.ofInt k.bits y) ∨ (op = .or ∧ r = BitVec.ofInt k.bits x ||| BitVec.ofInt k.bits y) ∨ (op = .xor ∧ r = BitVec.ofInt k.bits x ^^^ BitVec.ofInt k.bits y)) :
    BinRun P op (.int k x) (.int k y) (.int k z) := fun T w => by
  subst hz
  rcases hop with ⟨rfl, rfl⟩ | ⟨rfl, rfl⟩ | ⟨rfl, rfl⟩ <;> exact ⟨by simp [binOp, Op.intBits], fun a b => eqGuard_int _ _ _ _ _ _ _ _ _⟩

theorem ofInt8 (x : UInt8) : BitVec.ofInt IntKind.u8.bits (x.toNat : Int) = x.toBitVec := by
  apply BitVec.eq_of_toNat_eq; simp [IntKind.bits]
theorem ofInt32 (x : UInt32) : BitVec.ofInt IntKind.u32.bits (x.toNat : Int) = x.toBitVec := by
  apply BitVec.eq_of_toNat_eq; simp [IntKind.bits]
theorem ofInt64 (x : UInt64) : BitVec.ofInt IntKind.u64.bits (x.toNat : Int) = x.toBitVec := by
  apply BitVec.eq_of_toNat_eq; simp [IntKind.bits]
theorem wrapBit8 (x : UInt8) : IntKind.u8.wrap (x.toBitVec.toNat : Int) = (x.toNat : Int) := by
  have := x.toNat_lt; rw [IntKind.wrap_u8]; simp; omega
theorem wrapBit32 (x : UInt32) : IntKind.u32.wrap (x.toBitVec.toNat : Int) = (x.toNat : Int) := by
  have := x.toNat_lt; rw [IntKind.wrap_u32]; simp; omega
theorem wrapBit64 (x : UInt64) : IntKind.u64.wrap (x.toBitVec.toNat : Int) = (x.toNat : Int) := by
  have := x.toNat_lt; rw [IntKind.wrap_u64]; simp; omega

theorem B.and8 {x y : UInt8} : BinRun P .and (v8 x) (v8 y) (v8 (x &&& y)) := by
  exact B.bits (P := P) (op := .and) (k := .u8) (x := x.toNat) (y := y.toNat) (r := (x &&& y).toBitVec) (wrapBit8 _) (.inl ⟨rfl, by rw [ofInt8, ofInt8]; rfl⟩)
theorem B.or8 {x y : UInt8} : BinRun P .or (v8 x) (v8 y) (v8 (x ||| y)) := by
  exact B.bits (P := P) (op := .or) (k := .u8) (x := x.toNat) (y := y.toNat) (r := (x ||| y).toBitVec) (wrapBit8 _) (.inr (.inl ⟨rfl, by rw [ofInt8, ofInt8]; rfl⟩))
theorem B.and32 {x y : UInt32} : BinRun P .and (v32 x) (v32 y) (v32 (x &&& y)) := by
  exact B.bits (P := P) (op := .and) (k := .u32) (x := x.toNat) (y := y.toNat) (r := (x &&& y).toBitVec) (wrapBit32 _) (.inl ⟨rfl, by rw [ofInt32, ofInt32]; rfl⟩)
theorem B.or32 {x y : UInt32} : BinRun P .or (v32 x) (v32 y) (v32 (x ||| y)) := by
  exact B.bits (P := P) (op := .or) (k := .u32) (x := x.toNat) (y := y.toNat) (r := (x ||| y).toBitVec) (wrapBit32 _) (.inr (.inl ⟨rfl, by rw [ofInt32, ofInt32]; rfl⟩))
theorem B.xor32 {x y : UInt32} : BinRun P .xor (v32 x) (v32 y) (v32 (x ^^^ y)) := by
  exact B.bits (P := P) (op := .xor) (k := .u32) (x := x.toNat) (y := y.toNat) (r := (x ^^^ y).toBitVec) (wrapBit32 _) (.inr (.inr ⟨rfl, by rw [ofInt32, ofInt32]; rfl⟩))
theorem B.and64 {x y : UInt64} : BinRun P .and (v64 x) (v64 y) (v64 (x &&& y)) := by
  exact B.bits (P := P) (op := .and) (k := .u64) (x := x.toNat) (y := y.toNat) (r := (x &&& y).toBitVec) (wrapBit64 _) (.inl ⟨rfl, by rw [ofInt64, ofInt64]; rfl⟩)
theorem B.or64 {x y : UInt64} : BinRun P .or (v64 x) (v64 y) (v64 (x ||| y)) := by
  exact B.bits (P := P) (op := .or) (k := .u64) (x := x.toNat) (y := y.toNat) (r := (x ||| y).toBitVec) (wrapBit64 _) (.inr (.inl ⟨rfl, by rw [ofInt64, ofInt64]; rfl⟩))
theorem B.xor64 {x y : UInt64} : BinRun P .xor (v64 x) (v64 y) (v64 (x ^^^ y)) := by
  exact B.bits (P := P) (op := .xor) (k := .u64) (x := x.toNat) (y := y.toNat) (r := (x ^^^ y).toBitVec) (wrapBit64 _) (.inr (.inr ⟨rfl, by rw [ofInt64, ofInt64]; rfl⟩))
theorem B.xorI {x y : Int} {z : Int} (hz : IntKind.i64.wrap (BitVec.ofInt 64 x ^^^ BitVec.ofInt 64 y).toNat = z) : BinRun P .xor (vI x) (vI y) (vI z) := by
  subst hz
  exact B.bits (P := P) (op := .xor) (k := .i64) rfl (.inr (.inr ⟨rfl, rfl⟩))

theorem B.shl {k k' : IntKind} {x y : Int} (hy : 0 ≤ y) : BinRun P .shl (.int k x) (.int k' y) (.int k (k.wrap (x * 2 ^ (min y.toNat k.bits)))) := fun T w =>
  ⟨by have h : ¬ y < 0 := by omega
      simp [binOp, Op.shift, h], fun a b => eqGuard_int _ _ _ _ _ _ _ _ _⟩
theorem B.shr {k k' : IntKind} {x y : Int} (hy : 0 ≤ y) : BinRun P .shr (.int k x) (.int k' y) (.int k (x.fdiv (2 ^ (min y.toNat k.bits)))) := fun T w =>
  ⟨by have h : ¬ y < 0 := by omega
      simp [binOp, Op.shift, h], fun a b => eqGuard_int _ _ _ _ _ _ _ _ _⟩

theorem B.shr64 {x : UInt64} {k' : IntKind} {c : Int} (d : UInt64) (hc : 0 ≤ c) (hd : d.toNat = 2 ^ (min c.toNat 64)) : BinRun P .shr (v64 x) (.int k' c) (v64 (x / d)) := by
  have h := B.shr (P := P) (k := .u64) (k' := k') (x := x.toNat) (y := c) hc
  have e : ((x.toNat : Int)).fdiv (2 ^ (min c.toNat IntKind.u64.bits)) = ((x / d).toNat : Int) := by
    rw [UInt64.toNat_div, hd]
    rw [Int.fdiv_eq_ediv_of_nonneg _ (by exact Int.le_of_lt (Int.pow_pos (by decide)))]
    simp [IntKind.bits]
  rwa [e] at h
theorem B.shl64 {x : UInt64} {k' : IntKind} {c : Int} (d : UInt64) (hc : 0 ≤ c) (hd : d.toNat = 2 ^ (min c.toNat 64)) : BinRun P .shl (v64 x) (.int k' c) (v64 (x * d)) := by
  have h := B.shl (P := P) (k := .u64) (k' := k') (x := x.toNat) (y := c) hc
  have e : IntKind.u64.wrap ((x.toNat : Int) * 2 ^ (min c.toNat IntKind.u64.bits)) = ((x * d).toNat : Int) := by
    rw [IntKind.wrap_u64, UInt64.toNat_mul, hd]
    simp [IntKind.bits]
  rwa [e] at h
theorem B.shrI63 {x : Int} {k' : IntKind} (h1 : -9223372036854775808 ≤ x) (h2 : x ≤ 9223372036854775807) : BinRun P .shr (vI x) (.int k' 63) (vI (if x < 0 then -1 else 0)) := by
  have h := B.shr (P := P) (k := .i64) (k' := k') (x := x) (y := 63) (by omega)
  have e : x.fdiv (2 ^ (min (63 : Int).toNat IntKind.i64.bits)) = if x < 0 then -1 else 0 := by
    have : (2 : Int) ^ (min (63 : Int).toNat IntKind.i64.bits) = 9223372036854775808 := by simp [IntKind.bits]
    rw [this, Int.fdiv_eq_ediv_of_nonneg _ (by omega)]
    split <;> omega
  rwa [e] at h

/- Conversions. -/
theorem V.to8 {S D : TypeId} {x : Operand} {k : IntKind} {i : Int} (ho : o.op = .convert S D x) (hS : ∃ d, P.underlying S = some d) (hD : P.underlying D = some (.int .u8)) (hx : ev al x = some (.int k i)) : OpV P n κ al L o (v8 (UInt8.ofNat (i % 256).toNat)) := by
  have h := V.toInt (κ := κ) (L := L) (n := n) ho hS hD hx
  rwa [wrap8] at h
theorem V.to32 {S D : TypeId} {x : Operand} {k : IntKind} {i : Int} (ho : o.op = .convert S D x) (hS : ∃ d, P.underlying S = some d) (hD : P.underlying D = some (.int .u32)) (hx : ev al x = some (.int k i)) : OpV P n κ al L o (v32 (UInt32.ofNat (i % 4294967296).toNat)) := by
  have h := V.toInt (κ := κ) (L := L) (n := n) ho hS hD hx
  rwa [wrap32] at h
theorem V.to64 {S D : TypeId} {x : Operand} {k : IntKind} {i : Int} (ho : o.op = .convert S D x) (hS : ∃ d, P.underlying S = some d) (hD : P.underlying D = some (.int .u64)) (hx : ev al x = some (.int k i)) : OpV P n κ al L o (v64 (UInt64.ofNat (i % 18446744073709551616).toNat)) := by
  have h := V.toInt (κ := κ) (L := L) (n := n) ho hS hD hx
  rwa [wrap64] at h
theorem V.toI {S D : TypeId} {x : Operand} {k : IntKind} {i : Int} (ho : o.op = .convert S D x) (hS : ∃ d, P.underlying S = some d) (hD : P.underlying D = some (.int .i64)) (hx : ev al x = some (.int k i)) (h1 : -9223372036854775808 ≤ i) (h2 : i ≤ 9223372036854775807) : OpV P n κ al L o (vI i) := by
  have h := V.toInt (κ := κ) (L := L) (n := n) ho hS hD hx
  rwa [IntWalk.i64_in _ ⟨h1, h2⟩] at h
end
end Go.Wk

namespace Go.Wk

/-- The datum determines the cells. -/
def Rep.dt {α : Type} (sz : Nat) (f : α → List Value) (ok : α → Prop) (hl : ∀ x, ok x → (f x).length = sz) (h1 : ∀ x, ∀ u ∈ f x, u.oneCell' = true) : Rep α where
  sz := sz
  rep _ cs x := cs = f x ∧ ok x
  mono _ h := h
  len h := by rw [h.1]; exact hl _ h.2
  one h u hu := by rw [h.1] at hu; exact h1 _ u hu

section
variable {P : Program} {n : Nat} {κ : World} {al : List (Nat × Value)} {L L1 : List Assn} {o : Oper} {α : Type} {T : Rep α} {a : Option Addr} {m c : Nat} {l l' : List α} {e : TypeId}

theorem V.indexBuf {T' E j : Nat} {k : IntKind} {i : Int} {x y : Operand} (ho : o.op = .indexAddr T' x y) (hT : SliceTy P T' E T.sz) (hx : ev al x = some (.slice a m c)) (hy : ev al y = some (.int k i)) (hp : Pick (Buf T e a m c l) L L1) (hj : i = (j : Int)) (hlt : j < l.length) :
    OpV P n κ al L o (eptr a (j * T.sz)) := fun a' w he hs => by
  obtain ⟨h1, _, _⟩ := hs.buf hp
  obtain ⟨ti, h5, h6, h7⟩ := hT
  rcases (hs.ent hp).open_buf with ⟨_, h4, _⟩ | ⟨b, pre, cs, rest, fz, rfl, _⟩
  · omega
  · subst hj
    have h8 : j < m := by omega
    simp [execOp, ho, he.ev hx, he.ev hy, Instr.indexAt, asIntOf, run_underlying h5, h8, run_sizeOf_info h6, h7, addr_add, eptr]

theorem V.loadBufSc {val : α → Value} {ok : α → Prop} {h1 : ∀ x, (val x).oneCell' = true} {T' j : Nat} {y : α} {x : Operand} (ho : o.op = .load T' x) (hT : One P T') (hx : ev al x = some (eptr a (j * (Rep.sc val ok h1).sz)))
    (hp : Pick (Buf (Rep.sc val ok h1) e a m c l) L L1) (hy : l[j]? = some y) : OpV P n κ al L o (val y) := fun a' w he hs => by
  obtain ⟨g1, _, _⟩ := hs.buf hp
  have hj : j < l.length := (List.getElem?_eq_some_iff.1 hy).1
  rcases (hs.ent hp).open_buf with ⟨_, h4, _⟩ | ⟨b, pre, cs, rest, fz, rfl, _, _, _, hsF⟩
  · omega
  · obtain ⟨z, _, hrows⟩ := hsF.get_ro (R := fun z => (Rep.sc val ok h1).rows z cs l) (.tail _ (.head _))
    obtain ⟨rfl, _⟩ := rows_sc.1 hrows
    have hb := hsF.blkF
    have hcell : w.cell? ⟨b, pre.length + j, none⟩ = some (val y) := by
      simp only [World.cell?, hb]
      simp [List.getElem?_append_right, List.getElem?_append_left (show j < (l.map val).length by simpa using hj), hy]
    simp only [Rep.sc, Nat.mul_one] at hx
    have hx' := he.ev hx
    simp [eptr, addr_add] at hx'
    simp [execOp, ho, hx', Instr.loadAt, Instr.sureAddr, loadVar, hT.agg w, hcell]

theorem setAt_mid : ∀ (us pre mid post : List Value), mid.length = us.length → setAt (pre ++ mid ++ post) pre.length us = pre ++ us ++ post
  | [], pre, mid, post, h => by
    have : mid = [] := List.eq_nil_of_length_eq_zero (by simpa using h)
    subst this; simp [setAt]
  | u :: us, pre, [], post, h => by simp at h
  | u :: us, pre, r :: mid, post, h => by
    have ih := setAt_mid us (pre ++ [u]) mid post (by simpa using h)
    simp only [setAt]
    rw [show (pre ++ r :: mid ++ post).set pre.length u = (pre ++ [u]) ++ mid ++ post from by simp]
    rw [show pre.length + 1 = (pre ++ [u]).length from by simp, ih]
    simp

theorem Rep.rows.set {z : Frag} {cs us : List Value} {j : Nat} {y : α} (hr : T.rows z cs l) (hj : j < l.length) (hu : T.rep z us y) : T.rows z (cs.take (j * T.sz) ++ us ++ cs.drop (j * T.sz + T.sz)) (l.set j y) := by
  have h1 := hr.sub 0 j
  have h2 := hr.sub (j + 1) (l.length - (j + 1))
  simp only [Nat.zero_mul, List.drop_zero] at h1
  have e2 : (cs.drop ((j + 1) * T.sz)).take ((l.length - (j + 1)) * T.sz) = cs.drop (j * T.sz + T.sz) := by
    rw [Nat.add_mul, Nat.one_mul]
    apply List.take_of_length_le
    rw [List.length_drop, hr.1]
    have : l.length * T.sz = (j + 1) * T.sz + (l.length - (j + 1)) * T.sz := by rw [← Nat.add_mul]; congr 1; omega
    rw [Nat.add_mul, Nat.one_mul] at this
    omega
  have e3 : (l.drop (j + 1)).take (l.length - (j + 1)) = l.drop (j + 1) := List.take_of_length_le (by simp)
  rw [e2, e3] at h2
  have h3 := (h1.append (Rep.rows.single hu)).append h2
  have e4 : l.set j y = l.take j ++ [y] ++ l.drop (j + 1) := by
    rw [List.set_eq_take_append_cons_drop, if_pos hj]; simp
  rw [e4]; exact h3

theorem E.storeBuf {T' j : Nat} {y : α} {x x' : Operand} {u : Value} (us : List Value) (ho : o.op = .store T' x x') (hT : ∃ ti, P.info? T' = some ti ∧ ti.size = T.sz) (hx : ev al x = some (eptr a (j * T.sz))) (hy : ev al x' = some u) (hu : u.cells = us.toArray)
    (hp : Pick (Buf T e a m c l) L L1) (hj : j < l.length) (hrep : ∀ z h, Holds z L h → T.rep z us y) : OpE P n κ al L o fun _ M => M = Buf T e a m c (l.set j y) :: L1 := OpE.of_run fun a' w he hs => by
  obtain ⟨s, z, h, d1, d2, d3, H⟩ := hs
  have hR := hrep z h H
  have hs2 : Sep κ w (Buf T e a m c l :: ro (fun z => T.rep z us y) :: L1) := by
    obtain ⟨h1, h2, z1, g1, g2, g3, g4, hb, H2⟩ := hp z h H
    exact ⟨s, z, h, d1, d2, d3, h1, h2, z1, g1, g2, g3, g4, hb, Holds.add_ro hR H2⟩
  obtain ⟨g1, g2, g3⟩ := hs2.buf Pick.here
  rcases hs2.open_buf with ⟨_, h4, _⟩ | ⟨b, pre, cs, rest, fz, rfl, hfz, hl, hcs, hsF⟩
  · omega
  · have hus := T.len hR
    have hle : j * T.sz + T.sz ≤ cs.length := by
      rw [hcs, ← g1]
      have : (j + 1) * T.sz ≤ l.length * T.sz := Nat.mul_le_mul_right _ hj
      rwa [Nat.add_mul, Nat.one_mul] at this
    obtain ⟨w', hst, hsys, hb', hk'⟩ := run_storeCells_row (P := P) us (pre.length + j * T.sz) (pre ++ (cs ++ rest)) w hsF.blkF (fun k h1 h2 => hfz k (by omega) (by simp; omega)) (by simp; omega) (T.one hR) (pre.length + j * T.sz) 0 (by omega)
    have hsplit : cs ++ rest = cs.take (j * T.sz) ++ (cs.drop (j * T.sz)).take T.sz ++ (cs.drop (j * T.sz + T.sz) ++ rest) := by
      rw [← List.append_assoc, ← List.drop_drop, List.append_assoc (cs.take _), List.take_append_drop, List.take_append_drop]
    have hset : setAt (pre ++ (cs ++ rest)) (pre.length + j * T.sz) us = pre ++ ((cs.take (j * T.sz) ++ us ++ cs.drop (j * T.sz + T.sz)) ++ rest) := by
      rw [hsplit]
      have := setAt_mid us (pre ++ cs.take (j * T.sz)) ((cs.drop (j * T.sz)).take T.sz) (cs.drop (j * T.sz + T.sz) ++ rest) (by simp; omega)
      rw [List.length_append, List.length_take, Nat.min_eq_left (by omega)] at this
      rw [show pre ++ (cs.take (j * T.sz) ++ (cs.drop (j * T.sz)).take T.sz ++ (cs.drop (j * T.sz + T.sz) ++ rest)) = pre ++ cs.take (j * T.sz) ++ (cs.drop (j * T.sz)).take T.sz ++ (cs.drop (j * T.sz + T.sz) ++ rest) from by simp only [List.append_assoc], this]; simp
    rw [hset] at hb'
    have hs3 := hsF.changeF hsys hb' hk'
    obtain ⟨ti, e1, e2⟩ := hT
    have hx' := he.ev hx
    simp [eptr, addr_add] at hx'
    refine ⟨undef, w', _, .inr ⟨?_, rfl⟩, rfl, ?_⟩
    · simp [execOp, ho, hx', he.ev hy, Instr.storeAt, Instr.sureAddr, storeVar, run_sizeOf_info e1, hu, e2, hus, hst]
    · refine hs3.ent (Ent.trans (Ent.frame _ (?_ : Ent _ (ro (fun z => T.rows z (cs.take (j * T.sz) ++ us ++ cs.drop (j * T.sz + T.sz)) (l.set j y)) :: L1))) (Buf.closeO (by simp [g1]) g2 g3 (fun i hp hi => hfz i hp ?_) ?_))
      · rintro z h ⟨h1, h2, z1, f1, f2, f3, f4, q, h3, h4, z2, f1', f2', f3', f4', q', H'⟩
        exact Holds.add_ro ((q.mono f1).set hj (T.mono f1' q')) (Holds.mono (Frag.le.refl _) (f4'.trans f4) H')
      · simp only [List.length_append, List.length_take, List.length_drop] at hi ⊢; omega
      · rw [← hl]; simp only [List.length_append, List.length_take, List.length_drop]; omega

/-- A whole element of a slice of our own. -/
theorem E.loadBufElem {T' j : Nat} {y : α} {x : Operand} (ho : o.op = .load T' x) (hT : Agg P T' T.sz) (hx : ev al x = some (eptr a (j * T.sz))) (hp : Pick (Buf T e a m c l) L L1) (hy : l[j]? = some y) :
    OpE P n κ al L o fun v M => ∃ us, v = .agg us.toArray ∧ M = Rd T us y :: Buf T e a m c l :: L1 := OpE.of_run fun a' w he hs => by
  have hj : j < l.length := (List.getElem?_eq_some_iff.1 hy).1
  have hs2 := hs.ent hp
  obtain ⟨g1, g2, g3⟩ := hs2.buf Pick.here
  rcases hs2.open_buf with ⟨_, h4, _⟩ | ⟨b, pre, cs, rest, fz, rfl, hfz, hl, hcs, hsF⟩
  · omega
  · obtain ⟨z, hz, hrows⟩ := hsF.get_ro (R := fun z => T.rows z cs l) (.tail _ (.head _))
    have hrep := hrows.2 j y hy
    have hus := T.len hrep
    have hb := hsF.blkF
    generalize hus' : (cs.drop (j * T.sz)).take T.sz = us at *
    have hcells : (loadCells ⟨b, pre.length + j * T.sz, none⟩ us.length).run P w = .ok us.toArray w := by
      refine run_loadCells_list w _ us fun i u hi => ?_
      rw [addr_add]
      rw [← hus', List.getElem?_take] at hi
      split at hi
      · rw [List.getElem?_drop] at hi
        have hlt := (List.getElem?_eq_some_iff.1 hi).1
        simp only [World.cell?, hb]
        simp [Nat.add_assoc, List.getElem?_append_right, List.getElem?_append_left hlt, hi]
      · cases hi
    have hg := hT.agg w
    obtain ⟨d, ti, e1, e2, e3, e4⟩ := hT
    have hx' := he.ev hx
    simp [eptr, addr_add] at hx'
    rw [hus, ← e4] at hcells
    refine ⟨_, w, _, .inl ?_, ⟨us, rfl, rfl⟩, ?_⟩
    · rw [← e4] at hx'
      simp [execOp, ho, hx', Instr.loadAt, Instr.sureAddr, loadVar, hg, run_sizeOf_info e3, hcells]
    · refine hsF.ent ?_
      refine Ent.trans ?_ (Ent.frame _ (Buf.closeO (T := T) (l := l) g1 g2 g3 hfz hl))
      rintro z h ⟨h1, h2, z1, f1, f2, f3, f4, hblk, h3, h4, z2, f1', f2', f3', f4', q', H'⟩
      refine ⟨Frag.emp, h, z2, f1'.trans (Frag.le.refl _), Frag.emp_disj _, Frag.emp_le _, Frag.le.refl _, ?_, h1, h2, z1, f1, f2, f3, f4, hblk, h3, h4, z2, f1', f2', f3', f4', q', H'⟩
      have := q'.2 j y hy
      rwa [hus'] at this

/-- make([]T, m). -/
theorem E.make {T' bytes : Nat} {x y : Operand} {i : Int} {z0 : Value} {x0 : α} (ho : o.op = .makeSlice T' x y) (hT : ElemTy P T' e T.sz bytes) (hz : Zero P e (List.replicate T.sz z0)) (hx : ev al x = some (.int .i64 i)) (hy : ev al y = some (.int .i64 i)) (hi : i = (m : Int)) (hm : m * bytes ≤ 140737488355328) (h63 : m ≤ 9223372036854775807)
    (hrep : ∀ z, T.rep z (List.replicate T.sz z0) x0) :
    OpE P n κ al L o fun v M => ∃ b, v = .slice (some ⟨b, 0, none⟩) m m ∧ M = Buf T e (some ⟨b, 0, none⟩) m m (List.replicate m x0) :: L := OpE.of_run fun a' w he hs => by
  subst hi
  obtain ⟨ti, z, h1, h2, h3, h4, h5, h6⟩ := hT
  obtain ⟨ti', z', q1, q2, q3⟩ := hz
  rw [h2] at q1; cases q1
  rw [h5] at q2; cases q2
  have hlarge : ((ti.bytes : Int) * (m : Int)) ≤ 281474976710656 := by
    rw [h4, Int.mul_comm, ← Int.natCast_mul]; omega
  have hr := run_make (P := P) w T' e ti z h1 h2 h5 .i64 .i64 m m (by omega) (Int.le_refl _) hlarge (by omega)
  simp only [Int.toNat_natCast, h3] at hr
  have hcells : madeCells z.cells (m * T.sz) = (List.replicate (m * T.sz) z0).toArray := by
    rw [q3]
    unfold madeCells
    apply Array.ext
    · simp
    · intro i g1 g2
      simp at g1
      have hsz : 0 < T.sz := Nat.pos_of_ne_zero fun h => by rw [h] at g1; simp at g1
      have : i % T.sz < T.sz := Nat.mod_lt _ hsz
      simp [getElem!_pos, this]
  rw [hcells] at hr
  have hrun : (execOp a'.eval o).run P w = .ok (.value (.slice (some ⟨w.heap.size, 0, none⟩) m m)) (w.alloc (.cells (List.replicate (m * T.sz) z0).toArray e)) := by
    simp only [execOp, ho, he.ev hx, he.ev hy]
    simp only [Sem.run_bind, hr]
    rfl
  have hs' := hs.alloc (cs := List.replicate (m * T.sz) z0) (T := e)
  refine ⟨_, _, _, .inl hrun, ⟨w.heap.size, rfl, rfl⟩, hs'.ent (Buf.of_blk (by simp) (by simp) h63 fun zz => ?_)⟩
  refine ⟨by simp, fun i x hx => ?_⟩
  have hi := (List.getElem?_eq_some_iff.1 hx).1
  simp at hi
  have hxx : x = x0 := by simp [hi] at hx; exact hx.symm
  subst hxx
  have : ((List.replicate (m * T.sz) z0).drop (i * T.sz)).take T.sz = List.replicate T.sz z0 := by
    rw [List.drop_replicate, List.take_replicate, ← Nat.sub_mul]
    congr 1
    have : 1 * T.sz ≤ (m - i) * T.sz := Nat.mul_le_mul_right _ (by omega)
    omega
  rw [this]; exact hrep zz
end
end Go.Wk

namespace Go.Wk
section
variable {P : Program} {f : FuncId} {n : Nat} {κ : World} {K : Post} {k : List Item} {al : List (Nat × Value)} {L L1 : List Assn} {o : Oper} {α : Type} {T : Rep α} {a : Option Addr} {m c : Nat} {l l' : List α} {e : TypeId}

theorem SG.loop2 {c : Code} (I : Nat → List (Nat × Value) → List Assn → Prop) {m0 : Nat} (h0 : I m0 al L)
    (round : ∀ m al L, I m al L → (∀ m' al' L', m' < m → I m' al' L' → SG P f n κ K (.inLoop c :: k) al' L') → SG P f n κ K (.code c :: .inLoop c :: k) al L) :
    SG P f n κ K (.code (.loop c) :: k) al L := by
  have key : ∀ m al L, I m al L → SG P f n κ K (.code c :: .inLoop c :: k) al L := by
    intro m
    induction m using Nat.strongRecOn with
    | ind m ih => exact fun al L hi => round m al L hi fun m' al' L' hlt hi' => SG.inLoop (ih m' hlt al' L' hi')
  exact fun a w he hs => G.step (fun _ => step_loop) (key _ al L h0 a w he hs)

/-- A proposition, for what the walk must not look into. -/
theorem look_int {d : Nat} {kk : IntKind} {x y : Int} (h : look al d = some (.int kk x)) (e : x = y) : look al d = some (.int kk y) := e ▸ h

/- slice literals -/
def BuildSl (P : Program) (E len : Nat) (zs : List Value) (sz : Nat) : Prop := ∃ i z, P.info? E = some i ∧ i.zero = some z ∧ i.size = sz ∧ zs.length = len * sz ∧ ((Array.range (len * sz)).map fun j => z.cells[j % z.cells.size]!) = zs.toArray
theorem bl_of {E len sz : Nat} {zE zs : List Value} (hz : Zero P E zE) (hs : ∃ i, P.info? E = some i ∧ i.size = sz) (hlen : zE.length = sz) (h : zs = (List.range (len * sz)).map fun j => zE.getD (j % sz) undef) (hsz : 0 < sz) : BuildSl P E len zs sz := by
  obtain ⟨i, z, h1, h2, h3⟩ := hz
  obtain ⟨i', h4, h5⟩ := hs
  rw [h1] at h4; cases h4
  subst h
  refine ⟨i, z, h1, h2, h5, by simp, ?_⟩
  rw [h3]
  apply Array.ext
  · simp
  · intro j g1 g2
    have hj : j % sz < zE.length := by rw [hlen]; exact Nat.mod_lt _ hsz
    simp [hlen, List.getElem?_eq_getElem hj]

theorem E.buildSlice {T' E len sz : Nat} {ps : Array (Nat × Operand)} {zs : List Value} (qs : List (Nat × List Value)) (ho : o.op = .buildSlice T' len ps) (hT : SliceTy P T' E sz) (hb : BuildSl P E len zs sz) (hsz : 0 < sz) (hsmall : len * sz ≤ 16777216) (hl0 : 0 < len) (hq : PartsOf al ps.toList qs) {cs : List Value} (hf : fillL (fun i => some (i * sz, sz)) zs qs = some cs) :
    OpE P n κ al L o fun v M => ∃ b, v = .slice (some ⟨b, 0, none⟩) len len ∧ M = Blk b E cs :: L := OpE.of_run fun a' w he hs => by
  obtain ⟨ti, h1, h2, rfl⟩ := hT
  obtain ⟨i, z, g1, g2, g3, g4, g5⟩ := hb
  rw [h2] at g1; cases g1
  have hfill := run_fill he _ ps.toList qs zs hq hf
  refine ⟨.slice (some ⟨w.heap.size, 0, none⟩) len len, w.alloc (.cells cs.toArray E), _, .inl ?_, ⟨_, rfl, rfl⟩, hs.alloc⟩
  have h24 : ¬ (16777216 < len * ti.size) := by omega
  have h0 : ¬ (len * ti.size = 0) := by have := Nat.mul_pos hl0 hsz; omega
  simp only [execOp, ho, Instr.buildSlice]
  simp [run_underlying h1, run_sizeOf_info h2, h24, zeroValue, typeInfo, h2, g2, newRow]
  have e1 : (Array.map (fun x => z.cells[x % z.cells.size]!) (Array.range (len * ti.size))) = zs.toArray := g5
  rw [e1]
  have e2 : (List.map (fun (x : Nat × Operand) => (x.fst, a'.eval x.snd)) ps.toList) = ps.toList.map fun (i, x) => (i, a'.eval x) := rfl
  rw [e2, hfill]
  simp
  intro hh
  exact absurd hh h0

/-- All parts are given, in order. -/
def enumQ : Nat → List (List Value) → List (Nat × List Value)
  | _, [] => []
  | k, us :: r => (k, us) :: enumQ (k + 1) r
theorem fillL_full {sz : Nat} : ∀ (uss : List (List Value)) (k : Nat) (pre mid : List Value), pre.length = k * sz → mid.length = uss.length * sz → (∀ us ∈ uss, us.length = sz) → fillL (fun i => some (i * sz, sz)) (pre ++ mid) (enumQ k uss) = some (pre ++ uss.flatten)
  | [], k, pre, mid, _, h2, _ => by
    have : mid = [] := List.eq_nil_of_length_eq_zero (by simpa using h2)
    subst this; simp [enumQ, fillL]
  | us :: r, k, pre, mid, h1, h2, h3 => by
    have hu := h3 us (List.mem_cons_self ..)
    simp only [List.length_cons, Nat.add_mul, Nat.one_mul] at h2
    have hm : mid = mid.take sz ++ mid.drop sz := by rw [List.take_append_drop]
    have ih := fillL_full r (k + 1) (pre ++ us) (mid.drop sz) (by simp [h1, hu, Nat.add_mul]) (by simp; omega) (fun x hx => h3 x (List.mem_cons_of_mem _ hx))
    simp only [enumQ, fillL]
    rw [if_pos ⟨hu, by simp [h1, hu]; omega⟩]
    have hset : setAt (pre ++ mid) (k * sz) us = pre ++ us ++ mid.drop sz := by
      have := setAt_mid us pre (mid.take sz) (mid.drop sz) (by simp; omega)
      rw [h1, List.append_assoc, List.take_append_drop] at this
      exact this
    rw [hset, ih]; simp
theorem PartsOf.enum : ∀ {xs : List Operand} {uss : List (List Value)} (k : Nat), (∀ (i : Nat) (x : Operand) (us : List Value), xs[i]? = some x → uss[i]? = some us → ∃ u, ev al x = some u ∧ u.cells = us.toArray) → xs.length = uss.length → PartsOf al ((List.range' k xs.length).zip xs) (enumQ k uss)
  | [], [], _, _, _ => trivial
  | [], _ :: _, _, _, h => by simp at h
  | _ :: _, [], _, _, h => by simp at h
  | x :: xs, us :: uss, k, h, hl => by
    simp only [List.length_cons, List.range'_succ, List.zip_cons_cons, enumQ]
    exact ⟨rfl, h 0 x us rfl rfl, PartsOf.enum (k + 1) (fun i y vs h1 h2 => h (i + 1) y vs (by simpa using h1) (by simpa using h2)) (by simpa using hl)⟩

theorem E.lit1 {T' E0 sz : Nat} {x : Operand} {u : Value} {zE : List Value} (us : List Value) (ho : o.op = .buildSlice T' 1 #[(0, x)]) (hT : SliceTy P T' E0 sz) (hz : Zero P E0 zE) (hlen : zE.length = sz) (hsz : 0 < sz) (h24 : sz ≤ 16777216) (hx : ev al x = some u) (hu : u.cells = us.toArray) (hul : us.length = sz) :
    OpE P n κ al L o fun v M => ∃ b, v = .slice (some ⟨b, 0, none⟩) 1 1 ∧ M = Blk b E0 us :: L := by
  have hs : ∃ i, P.info? E0 = some i ∧ i.size = sz := let ⟨i, _, a, b⟩ := hT; ⟨i, a, b⟩
  refine E.buildSlice (sz := sz) [(0, us)] ho hT (bl_of hz hs hlen rfl hsz) hsz (by omega) (by omega) ⟨rfl, ⟨u, hx, hu⟩, trivial⟩ ?_
  have := fillL_full (sz := sz) [us] 0 [] ((List.range (1 * sz)).map fun j => zE.getD (j % sz) undef) (by simp) (by simp) (by simpa using hul)
  simpa [enumQ] using this

/-- Elements of one cell each. -/
theorem E.litN {T' E0 len : Nat} {ps : Array (Nat × Operand)} {xs : List Operand} {vs : List Value} {zE : List Value} (ho : o.op = .buildSlice T' len ps) (hps : ps.toList = (List.range' 0 xs.length).zip xs) (hlx : xs.length = len) (hT : SliceTy P T' E0 1) (hz : Zero P E0 zE) (hlen : zE.length = 1) (h0 : 0 < len) (h24 : len ≤ 16777216)
    (hx : evs al xs = some vs) (hu : ∀ v ∈ vs, v.cells = #[v]) : OpE P n κ al L o fun v M => ∃ b, v = .slice (some ⟨b, 0, none⟩) len len ∧ M = Blk b E0 vs :: L := by
  have hs : ∃ i, P.info? E0 = some i ∧ i.size = 1 := let ⟨i, _, a, b⟩ := hT; ⟨i, a, b⟩
  have hev : ∀ (xs : List Operand) (vs : List Value), evs al xs = some vs → vs.length = xs.length ∧ ∀ (i : Nat) (x : Operand) (v : Value), xs[i]? = some x → vs[i]? = some v → ev al x = some v := by
    intro xs
    induction xs with
    | nil => intro vs h; cases h; exact ⟨rfl, fun i x v h => by simp at h⟩
    | cons x r ih =>
      intro vs h
      simp only [evs] at h
      split at h
      · rename_i v vs' h1 h2
        cases h
        obtain ⟨g1, g2⟩ := ih vs' h2
        refine ⟨by simp [g1], fun i y u hy hu => ?_⟩
        match i, hy, hu with
        | 0, hy, hu => simp at hy hu; subst hy; subst hu; exact h1
        | i + 1, hy, hu => exact g2 i y u (by simpa using hy) (by simpa using hu)
      · cases h
  obtain ⟨g1, g2⟩ := hev xs vs hx
  refine E.buildSlice (sz := 1) (enumQ 0 (vs.map fun v => [v])) ho hT (bl_of hz hs hlen rfl (by omega)) (by omega) (by omega) h0 ?_ ?_
  · rw [hps]
    refine PartsOf.enum 0 (fun i x us h1 h2 => ?_) (by simp [g1])
    rw [List.getElem?_map] at h2
    cases hv : vs[i]? with
    | none => rw [hv] at h2; cases h2
    | some v =>
      rw [hv] at h2; cases h2
      exact ⟨v, g2 i x v h1 hv, hu v (List.mem_of_getElem? hv)⟩
  · have := fillL_full (sz := 1) (vs.map fun v => [v]) 0 [] ((List.range (len * 1)).map fun j => zE.getD (j % 1) undef) (by simp) (by simp [g1, hlx]) (by simp)
    rw [List.nil_append] at this
    rw [this]
    simp [← List.flatMap_def]

/- []byte(s) -/
theorem E.sToBytes {S D bytes : TypeId} {x : Operand} {s : List UInt8} (ho : o.op = .convert S D x) (hS : P.underlying S = some .string) (hD : ElemTy P D e 1 bytes) (hE : P.underlying e = some (.int .u8)) (hx : ev al x = some (vS s)) (h63 : s.length ≤ 9223372036854775807) :
    OpE P n κ al L o fun v M => ∃ a' c', v = .slice a' s.length c' ∧ M = Buf R8 e a' s.length c' s :: L := OpE.of_run fun a' w he hs => by
  have hx' := he.ev hx
  have hr := run_bytes_of_string (P := P) w S D e ⟨⟨s⟩⟩ hS hD.under hE
  have hsz : (⟨⟨s⟩⟩ : ByteArray).size = s.length := rfl
  rw [hsz] at hr
  have hge := grownCap_ge w s.length 0 e
  have hle := grownCap_le_maxLen w s.length 0 e (by unfold maxLen; omega)
  generalize grownCap w s.length 0 e = C at *
  have hrow : bytesRow ⟨⟨s⟩⟩ C = (s.map v8 ++ List.replicate (C - s.length) (Value.int .u8 0)).toArray := by
    unfold bytesRow
    rw [hsz]
    apply Array.ext'
    simp
  rw [hrow] at hr
  have hs2 := (hs.drew (w.drawn + 1)).new (A := BlkF w.heap.size e (s.map v8 ++ List.replicate (C - s.length) (Value.int .u8 0)) ((s.map v8 ++ List.replicate (C - s.length) (Value.int .u8 0)).toArray.size, (s.map v8 ++ List.replicate (C - s.length) (Value.int .u8 0)).toArray.size + 1))
    (o := .cells (s.map v8 ++ List.replicate (C - s.length) (Value.int .u8 0)).toArray e ((s.map v8 ++ List.replicate (C - s.length) (Value.int .u8 0)).toArray.size, (s.map v8 ++ List.replicate (C - s.length) (Value.int .u8 0)).toArray.size + 1)) (fun _ => by show Frag.one w.heap.size _ w.heap.size = some _; simp [Frag.one])
  refine ⟨.slice (some ⟨w.heap.size, 0, none⟩) s.length C, _, _, .inl ?_, ⟨some ⟨w.heap.size, 0, none⟩, C, rfl, rfl⟩, hs2.ent ?_⟩
  · simp only [execOp, ho, hx', Sem.run_bind, hr]
    rfl
  · refine Ent.trans (Ent.frame _ (?_ : Ent L (ro (fun z => R8.rows z (s.map v8) s) :: L))) (Buf.close (T := R8) (cs := s.map v8) (rest := List.replicate (C - s.length) (Value.int .u8 0)) rfl hge (by simpa [maxLen] using hle) (fun i hi => ?_) (by simp [R8, Rep.sc]; omega))
    · exact fun z h H => Holds.add_ro (rows_sc.2 ⟨rfl, fun _ _ => trivial⟩) H
    · simp at hi ⊢; omega
theorem V.negI {T' : TypeId} {x : Operand} {i : Int} (ho : o.op = .unOp .neg T' x) (hx : ev al x = some (vI i)) (h1 : -9223372036854775808 ≤ -i) (h2 : -i ≤ 9223372036854775807) : OpV P n κ al L o (vI (-i)) := V.of_run fun a w he => by
  have hw : IntKind.i64.wrap (-i) = -i := IntWalk.i64_in _ ⟨h1, h2⟩
  simp [execOp, ho, he.ev hx, Op.unary, Op.intArith, hw]
theorem V.compl32 {T' : TypeId} {x : Operand} {i : UInt32} (ho : o.op = .unOp .xor T' x) (hx : ev al x = some (v32 i)) : OpV P n κ al L o (v32 (~~~i)) := V.of_run fun a w he => by
  have h0 : IntKind.u32.max = (4294967295 : Int) := rfl
  have h1 : (BitVec.ofInt IntKind.u32.bits IntKind.u32.max ^^^ BitVec.ofInt IntKind.u32.bits (i.toNat : Int)) = (~~~i).toBitVec := by
    rw [ofInt32, h0]
    show (4294967295#32 ^^^ i.toBitVec) = ~~~ i.toBitVec
    exact BitVec.allOnes_xor
  have hx' := he.ev hx
  simp only [execOp, ho, hx', Op.unary]
  have e : (if IntKind.u32.signed = true then (-1 : Int) else IntKind.u32.max) = IntKind.u32.max := rfl
  rw [e]
  have e2 := wrapBit32 (~~~i)
  simp only [Op.intBits, h1]
  show Result.ok (Next.value (Value.int IntKind.u32 (IntKind.u32.wrap ((~~~i).toBitVec.toNat : Int)))) w = _
  rw [e2]
/-- The beginning of a region that draws, with its size as a number. -/
theorem SG.drawN {id : Nat} {ops : List Oper} (N x : Nat) (L0 : List Assn) (hm : P.follows .mixedOrders = true) (hN : ops.length = N) {ls : Array Bool} (hls : Array.replicate N false = ls) (hL : Ent L L0) (h : RH P f n κ K k ops.toArray L0 x N ls al L) :
    SG P f n κ K (.code (.region id ops.toArray true) :: k) al L := by
  subst hN; subst hls
  exact SG.draw L0 x hm hL (by simpa using h)
theorem SG.drawL {id : Nat} {ops : List Oper} (N x : Nat) (hm : P.follows .mixedOrders = true) (hN : ops.length = N) {ls : Array Bool} (hls : Array.replicate N false = ls) (h : RH P f n κ K k ops.toArray L x N ls al L) :
    SG P f n κ K (.code (.region id ops.toArray true) :: k) al L := SG.drawN N x L hm hN hls (Ent.refl _) h
/- what is appended: one element that was just laid -/
theorem Src.lit {val : α → Value} {ok : α → Prop} {h1 : ∀ x, (val x).oneCell' = true} {b E c' : Nat} {x : α} (hp : Pick (Blk b E [val x]) L L1) (hok : ok x) : Src P L (Rep.sc val ok h1) (.slice (some ⟨b, 0, none⟩) 1 c') [x] :=
  Src.blk (l := [x]) hp (fun u hu => by simp at hu; subst hu; exact h1 x) fun z h _ => rows_sc.2 ⟨rfl, fun y hy => by simp at hy; subst hy; exact hok⟩
theorem Src.litRd {b E c' : Nat} {us : List Value} {y : α} (hp : Pick (Blk b E us) L L1) (hm : Rd T us y ∈ L) : Src P L T (.slice (some ⟨b, 0, none⟩) 1 c') [y] := fun z h H => by
  obtain ⟨_, _, z1, hz, _, _, _, hr, _⟩ := Pick.ro hm z h H
  exact Src.blk (l := [y]) hp (T.one hr) (fun z' h' H' => by
    obtain ⟨_, _, z2, hz', _, _, _, hr', _⟩ := Pick.ro hm z' h' H'
    exact (Rep.rows.single hr').mono hz') z h H
/-- Elements of one cell each, laid one behind the other. -/
theorem Src.lits {val : α → Value} {ok : α → Prop} {h1 : ∀ x, (val x).oneCell' = true} {b E c' : Nat} {vs : List Value} {n' : Nat} (l : List α) (hp : Pick (Blk b E vs) L L1) (hv : vs = l.map val) (hn : n' = l.length) (hok : ∀ x ∈ l, ok x) : Src P L (Rep.sc val ok h1) (.slice (some ⟨b, 0, none⟩) n' c') l := by
  subst hn
  exact Src.blk hp (fun u hu => by rw [hv] at hu; obtain ⟨x, _, rfl⟩ := List.mem_map.1 hu; exact h1 x) fun z h _ => rows_sc.2 ⟨hv, hok⟩
theorem RL.buf {ops : Array Oper} {rest : List Oper} (hp : Pick (Buf T e a m c l) L L1) (h : l.length = m → m ≤ c → c ≤ 9223372036854775807 → RL P f n κ K k ops rest al L) : RL P f n κ K k ops rest al L := fun a' w he hs => by
  obtain ⟨h1, h2, h3⟩ := hs.buf hp
  exact h h1 h2 h3 a' w he hs
/- several assertions as one; one of a family -/
def Ex {ι : Type} (A : ι → List Assn) : Assn := fun z h => ∃ i, Holds z (A i) h
theorem Holds.app : ∀ {A B : List Assn} {z h ha hb : Frag}, ha.disj hb → ha.le h → hb.le h → Holds z A ha → Holds z B hb → Holds z (A ++ B) h
  | [], _, _, _, _, _, _, _, hb, _, H => Holds.mono (Frag.le.refl _) hb H
  | X :: A, B, z, h, ha, hb, hd, h1, h2, ⟨k1, k2, z1, a, b, c, d, e, f⟩, H => by
    refine ⟨k1, k2.un hb, z1, a, ?_, c.trans h1, Frag.un_le (d.trans h1) h2, e, Holds.app ?_ (Frag.le_un_left _ _) (Frag.le_un_right ?_) f H⟩
    · exact (Frag.un_disj b.symm (hd.mono c (Frag.le.refl _)).symm).symm
    · exact hd.mono d (Frag.le.refl _)
    · exact hd.mono d (Frag.le.refl _)
theorem Holds.split : ∀ {A B : List Assn} {z h : Frag}, Holds z (A ++ B) h → ∃ ha hb : Frag, ha.disj hb ∧ ha.le h ∧ hb.le h ∧ Holds z A ha ∧ Holds z B hb
  | [], B, z, h, H => ⟨Frag.emp, h, Frag.emp_disj _, Frag.emp_le _, Frag.le.refl _, trivial, H⟩
  | X :: A, B, z, h, ⟨k1, k2, z1, a, b, c, d, e, f⟩ => by
    obtain ⟨ha, hb, g1, g2, g3, g4, g5⟩ := Holds.split f
    refine ⟨k1.un ha, hb, ?_, Frag.un_le c (g2.trans d), g3.trans d, ⟨k1, ha, z1, a, b.mono (Frag.le.refl _) g2, Frag.le_un_left _ _, Frag.le_un_right (b.mono (Frag.le.refl _) g2), e, g4⟩, g5⟩
    exact Frag.un_disj (b.mono (Frag.le.refl _) g3) g1
theorem Ex.close {ι : Type} {A : ι → List Assn} (i : ι) : Ent (A i ++ L) (Ex A :: L) := fun z h H => by
  obtain ⟨ha, hb, g1, g2, g3, g4, g5⟩ := Holds.split H
  exact ⟨ha, hb, z, Frag.le.refl _, g1, g2, g3, ⟨i, g4⟩, g5⟩
theorem Sep.openEx {ι : Type} {A : ι → List Assn} {w : World} (hs : Sep κ w (Ex A :: L)) : ∃ i, Sep κ w (A i ++ L) := by
  obtain ⟨s, z, h, d1, d2, d3, h1, h2, z1, g1, g2, g3, g4, ⟨i, hA⟩, H⟩ := hs
  exact ⟨i, s, z, h, d1, d2, d3, Holds.app g2 g3 g4 (Holds.mono g1 (Frag.le.refl _) hA) H⟩
theorem SG.openEx {ι : Type} {A : ι → List Assn} (hp : Pick (Ex A) L L1) (h : ∀ i, SG P f n κ K k al (A i ++ L1)) : SG P f n κ K k al L := fun a w he hs => by
  obtain ⟨i, hi⟩ := (hs.ent hp).openEx
  exact h i a w he hi
theorem RL.openEx {ι : Type} {A : ι → List Assn} {ops : Array Oper} {rest : List Oper} (hp : Pick (Ex A) L L1) (h : ∀ i, RL P f n κ K k ops rest al (A i ++ L1)) : RL P f n κ K k ops rest al L := fun a w he hs => by
  obtain ⟨i, hi⟩ := (hs.ent hp).openEx
  exact h i a w he hi
theorem Ctr.post {args : Array Value} {L' : List Assn} {K' : Post} (h : Ctr P f args κ L K) (hL : Ent L' L) (hK : ∀ v M, K v M → ∃ M', K' v M' ∧ Ent M M') : Ctr P f args κ L' K' :=
  fun w hw => Calls.mono (h w (hw.ent hL)) fun _ _ ⟨v, e, M, hM, hs⟩ => let ⟨M', h1, h2⟩ := hK v M hM; ⟨v, e, M', h1, hs.ent h2⟩
theorem Ctr.openEx {ι : Type} {A : ι → List Assn} {args : Array Value} (hp : Pick (Ex A) L L1) (h : ∀ i, Ctr P f args κ (A i ++ L1) K) : Ctr P f args κ L K := fun w hs => by
  obtain ⟨i, hi⟩ := (hs.ent hp).openEx
  exact h i w hi

theorem Src.weaken {x : Value} (h : Src P L T x l) {L' : List Assn} (hE : Ent L' L) : Src P L' T x l := fun z hh H => h z hh (hE z hh H)
theorem Src.buf (hsz : 0 < T.sz) (hp : Pick (Buf T e a m c l) L L1) : Src P L T (.slice a m c) l := fun z h H => by
  obtain ⟨h1, h2, z1, g1, g2, g3, g4, ⟨k1, k2, k3, k4⟩, _⟩ := hp z h H
  rcases k4 with ⟨rfl, rfl, rfl⟩ | ⟨b, pre, cs, rest, fz, rfl, hb, hf, hr, hl⟩
  · have : l = [] := List.eq_nil_of_length_eq_zero k1
    subst this
    exact Src.nil z h H
  · have hr' := hr.mono g1
    refine ⟨cs, hr', hr'.one hsz, fun w hz hh => ⟨fun k hk => ?_, by simp [Builtin.lenOf, k1]⟩⟩
    have hrow : Row h1 b pre.length cs := fun i u hu => by
      have hi : i < cs.length := (List.getElem?_eq_some_iff.1 hu).1
      simp only [cellAt, hb]
      simp [List.getElem?_append_right, List.getElem?_append_left hi, hu]
    exact run_firstCells_row (g3.trans hh) hrow (by rw [hr.1]; exact Nat.mul_le_mul_right _ hk)
theorem SG.slN (hm : Sl T a m c l ∈ L) (h : (a = none → m = 0) → SG P f n κ K k al L) : SG P f n κ K k al L := fun a' w he hs => by
  obtain ⟨z, _, _, _, _, h4⟩ := hs.sl hm
  exact h (fun e => by rcases h4 with h4 | ⟨b, o, cs, h4, _⟩; exact h4; rw [e] at h4; cases h4) a' w he hs
theorem Sep.slN {w : World} (hs : Sep κ w L) (hm : Sl T a m c l ∈ L) : a = none → m = 0 := fun e => by
  obtain ⟨z, _, _, _, _, h4⟩ := hs.sl hm
  rcases h4 with h4 | ⟨b, o, cs, h4, _⟩
  · exact h4
  · rw [e] at h4; cases h4
theorem Sep.bufN {w : World} (hs : Sep κ w L) (hp : Pick (Buf T e a m c l) L L1) : a = none → m = 0 := fun ea => by
  rcases (hs.ent hp).open_buf with ⟨_, h4, _⟩ | ⟨b, pre, cs, rest, fz, h5, _⟩
  · exact h4
  · rw [ea] at h5; cases h5
theorem Sep.slLen {w : World} (hs : Sep κ w L) (hm : Sl T a m c l ∈ L) : l.length = m := let ⟨_, _, h, _⟩ := hs.sl hm; h
theorem Sep.bufLen {w : World} (hs : Sep κ w L) (hp : Pick (Buf T e a m c l) L L1) : l.length = m := (hs.buf hp).1

theorem run_equalIn_nil (d : Nat) (w : World) (t e : TypeId) (a : Option Addr) (n c n' c' : Nat) (h : P.underlying t = some (.slice e)) : (Op.equalIn (d + 1) t (.slice a n c) (.slice none n' c')).run P w = .ok a.isNone w := by
  cases a <;> simp [Op.equalIn, run_underlying h]
/-- 's == nil' at a slice. -/
theorem V.eqlNil {T' : TypeId} {x y : Operand} {T2 c0 : Nat} (ho : o.op = .binOp .eql T' x y T2) {E : TypeId} (hT : P.underlying T' = some (.slice E)) (hx : ev al x = some (.slice a m c)) (hy : ev al y = some (.slice none 0 c0)) : OpV P n κ al L o (.bool a.isNone) := V.of_run fun a' w he => by
  have h1 : (binOp .eql T' (.slice a m c) (.slice none 0 c0)).run P w = .ok (.bool a.isNone) w := by
    simp only [binOp]
    simp [Op.equal, Op.maxDepth, run_equalIn_nil 9999 w T' E a m c 0 c0 hT]
  have h2 : (eqGuard .eql T' x y (.slice a m c) (.slice none 0 c0)).run P w = .ok () w := by
    unfold eqGuard; simp
  simp only [execOp, ho, he.ev hx, he.ev hy]
  simp [h1, h2]
/-- []T{}. -/
theorem E.lit0 {T' : TypeId} {bytes : Nat} {ps : Array (Nat × Operand)} (ho : o.op = .buildSlice T' 0 ps) (hps : ps = #[]) (hT : ElemTy P T' e T.sz bytes) : OpE P n κ al L o fun v M => ∃ b, v = .slice (some ⟨b, 0, none⟩) 0 0 ∧ M = Buf T e (some ⟨b, 0, none⟩) 0 0 [] :: L := OpE.of_run fun a' w he hs => by
  subst hps
  obtain ⟨i, z, h1, h2, h3, h4, h5, h6⟩ := hT
  refine ⟨.slice (some ⟨w.heap.size, 0, none⟩) 0 0, w.alloc (.cells ([] : List Value).toArray e), _, .inl ?_, ⟨_, rfl, rfl⟩, (hs.alloc (cs := []) (T := e)).ent (Buf.of_blk (by simp) rfl (by omega) fun z => Rep.rows.nil T z)⟩
  simp [execOp, ho, Instr.buildSlice, run_underlying h1, run_sizeOf_info h2, Instr.fill, newRow]
  congr 2
  apply Array.ext <;> simp
/- stores, for the walk -/
theorem E.store1 {T' E0 b i : Nat} {x y : Operand} {cs : List Value} {u : Value} (ho : o.op = .store T' x y) (hx : ev al x = some (ptr b i)) (hy : ev al y = some u) (hu : u.cells = #[u]) (h1 : u.oneCell' = true)
    (hT : ∃ ti, P.info? T' = some ti ∧ ti.size = 1) (hp : Pick (Blk b E0 cs) L L1) (hl : Nat.blt i cs.length = true) : OpE P n κ al L o fun _ M => M = Blk b E0 (cs.set i u) :: L1 :=
  E.store [u] ho hx hy hu rfl hT hp (fun v hv => by simp at hv; subst hv; exact h1) (Nat.succ_le_of_lt (by simpa using hl))
theorem E.storeAgg {T' E0 b i m' : Nat} {x y : Operand} {cs : List Value} {us : List Value} (ho : o.op = .store T' x y) (hx : ev al x = some (ptr b i)) (hy : ev al y = some (.agg us.toArray)) (hm : us.length = m')
    (hT : ∃ ti, P.info? T' = some ti ∧ ti.size = m') (hp : Pick (Blk b E0 cs) L L1) (h1 : ∀ u ∈ us, u.oneCell' = true) (hl : i + m' ≤ cs.length) : OpE P n κ al L o fun _ M => M = Blk b E0 (setAt cs i us) :: L1 :=
  E.store us ho hx hy rfl hm hT hp h1 hl
end
end Go.Wk

namespace Go.Wk
section
variable {P : Program} {f : FuncId} {n : Nat} {κ : World} {K : Post} {k : List Item} {al : List (Nat × Value)} {L L1 : List Assn} {o : Oper} {ops : Array Oper} {rest : List Oper}

theorem eqGuard_ptr (op : BinOp) (T : TypeId) (x y : Operand) (m m' : Option Addr) (w : World) : (eqGuard op T x y (.pointer m) (.pointer m')).run P w = .ok () w := by
  unfold eqGuard; split <;> simp

theorem run_equalIn_bool (d : Nat) (w : World) (t : TypeId) (a b : Bool) (h : P.underlying t = some .bool) : (Op.equalIn (d + 1) t (.bool a) (.bool b)).run P w = .ok (a == b) w := by
  simp [Op.equalIn, run_underlying h]
theorem V.eqlBool {T' T2 : TypeId} {x y : Operand} {a b : Bool} (ho : o.op = .binOp .eql T' x y T2) (hT : P.underlying T' = some .bool) (hx : ev al x = some (.bool a)) (hy : ev al y = some (.bool b)) : OpV P n κ al L o (.bool (decide (a = b))) := V.of_run fun a' w he => by
  have h1 : (binOp .eql T' (.bool a) (.bool b)).run P w = .ok (.bool (a == b)) w := by
    simp only [binOp]
    simp [Op.equal, Op.maxDepth, run_equalIn_bool 9999 w T' a b hT]
  have h2 : (eqGuard .eql T' x y (.bool a) (.bool b)).run P w = .ok () w := eqGuard_bool _ _ _ _ _ _ _
  simp only [execOp, ho, he.ev hx, he.ev hy]
  simp [h1, h2, beq_dec]
theorem V.neqBool {T' T2 : TypeId} {x y : Operand} {a b : Bool} (ho : o.op = .binOp .neq T' x y T2) (hT : P.underlying T' = some .bool) (hx : ev al x = some (.bool a)) (hy : ev al y = some (.bool b)) : OpV P n κ al L o (.bool (decide (a ≠ b))) := V.of_run fun a' w he => by
  have h1 : (binOp .neq T' (.bool a) (.bool b)).run P w = .ok (.bool (!(a == b))) w := by
    simp only [binOp]
    simp [Op.equal, Op.maxDepth, run_equalIn_bool 9999 w T' a b hT]
  have h2 : (eqGuard .neq T' x y (.bool a) (.bool b)).run P w = .ok () w := eqGuard_bool _ _ _ _ _ _ _
  simp only [execOp, ho, he.ev hx, he.ev hy]
  cases a <;> cases b <;> simp_all

theorem run_equalIn_ptr (d : Nat) (w : World) (t e : TypeId) (a : Option Addr) (h : P.underlying t = some (.pointer e)) : (Op.equalIn (d + 1) t (.pointer a) (.pointer none)).run P w = .ok a.isNone w := by
  cases a <;> simp [Op.equalIn, run_underlying h]
theorem V.eqlPtrNil {T' T2 E : TypeId} {x y : Operand} {a : Option Addr} (ho : o.op = .binOp .eql T' x y T2) (hT : P.underlying T' = some (.pointer E)) (hx : ev al x = some (.pointer a)) (hy : ev al y = some (.pointer none)) : OpV P n κ al L o (.bool (decide (a = none))) := V.of_run fun a' w he => by
  have h1 : (binOp .eql T' (.pointer a) (.pointer none)).run P w = .ok (.bool a.isNone) w := by
    simp only [binOp]
    simp [Op.equal, Op.maxDepth, run_equalIn_ptr 9999 w T' E a hT]
  have h2 : (eqGuard .eql T' x y (.pointer a) (.pointer none)).run P w = .ok () w := eqGuard_ptr _ _ _ _ _ _ _
  simp only [execOp, ho, he.ev hx, he.ev hy]
  cases a <;> simp [h1, h2]
theorem V.neqPtrNil {T' T2 E : TypeId} {x y : Operand} {a : Option Addr} (ho : o.op = .binOp .neq T' x y T2) (hT : P.underlying T' = some (.pointer E)) (hx : ev al x = some (.pointer a)) (hy : ev al y = some (.pointer none)) : OpV P n κ al L o (.bool (decide (a ≠ none))) := V.of_run fun a' w he => by
  have h1 : (binOp .neq T' (.pointer a) (.pointer none)).run P w = .ok (.bool (!a.isNone)) w := by
    simp only [binOp]
    simp [Op.equal, Op.maxDepth, run_equalIn_ptr 9999 w T' E a hT]
  have h2 : (eqGuard .neq T' x y (.pointer a) (.pointer none)).run P w = .ok () w := eqGuard_ptr _ _ _ _ _ _ _
  simp only [execOp, ho, he.ev hx, he.ev hy]
  cases a <;> simp [h1, h2]

/- opening what is immutable -/
theorem SG.roEx {ι : Type} {R0 : Frag → Prop} {p : ι → Prop} {R : ι → Frag → Prop} (hp : Pick (ro R0) L L1) (hR : ∀ z, R0 z → ∃ i, p i ∧ R i z) (h : ∀ i, p i → SG P f n κ K k al (ro (R i) :: L1)) : SG P f n κ K k al L := fun a w he hs => by
  obtain ⟨s, z, hh, d1, d2, d3, h1, h2, z1, g1, g2, g3, g4, hr, H⟩ := hs.ent hp
  obtain ⟨i, hi, hri⟩ := hR z1 hr
  exact h i hi a w he ⟨s, z, hh, d1, d2, d3, h1, h2, z1, g1, g2, g3, g4, hri, H⟩
theorem RL.roEx {ι : Type} {R0 : Frag → Prop} {p : ι → Prop} {R : ι → Frag → Prop} (hp : Pick (ro R0) L L1) (hR : ∀ z, R0 z → ∃ i, p i ∧ R i z) (h : ∀ i, p i → RL P f n κ K k ops rest al (ro (R i) :: L1)) : RL P f n κ K k ops rest al L := fun a w he hs => by
  obtain ⟨s, z, hh, d1, d2, d3, h1, h2, z1, g1, g2, g3, g4, hr, H⟩ := hs.ent hp
  obtain ⟨i, hi, hri⟩ := hR z1 hr
  exact h i hi a w he ⟨s, z, hh, d1, d2, d3, h1, h2, z1, g1, g2, g3, g4, hri, H⟩
theorem RH.roEx {ι : Type} {R0 : Frag → Prop} {p : ι → Prop} {R : ι → Frag → Prop} {L0 : List Assn} {x fuel : Nat} {listed : Array Bool} (hp : Pick (ro R0) L L1) (hR : ∀ z, R0 z → ∃ i, p i ∧ R i z) (h : ∀ i, p i → RH P f n κ K k ops L0 x fuel listed al (ro (R i) :: L1)) : RH P f n κ K k ops L0 x fuel listed al L := fun a w he hs hn => by
  obtain ⟨s, z, hh, d1, d2, d3, h1, h2, z1, g1, g2, g3, g4, hr, H⟩ := hs.ent hp
  obtain ⟨i, hi, hri⟩ := hR z1 hr
  exact h i hi a w he ⟨s, z, hh, d1, d2, d3, h1, h2, z1, g1, g2, g3, g4, hri, H⟩ hn
/-- What follows of what is immutable. -/
theorem Ent.ro_mk {R R' : Frag → Prop} (hm : ro R ∈ L) (h : ∀ z, R z → R' z) : Ent L (ro R' :: L) := (Pick.ro hm).trans (Ent.ro_ro h)
theorem Wanted.yes {j d : Nat} {x : Bool} (h : o.guard = some (j, x)) (hd : (ops[j]?).bind (·.dst) = some d) (hn : Nat.blt d n = true) (hl : look al d = some (.bool x)) : Wanted n ops o al true := by
  have := Wanted.by h hd hn hl
  simpa using this
theorem Wanted.no {j d : Nat} {x y : Bool} (h : o.guard = some (j, x)) (hd : (ops[j]?).bind (·.dst) = some d) (hn : Nat.blt d n = true) (hl : look al d = some (.bool y)) (hxy : (y == x) = false) : Wanted n ops o al false := by
  have := Wanted.by h hd hn hl
  rwa [hxy] at this
/- draws beside stores into these blocks -/
theorem SG.drawP1 {id : Nat} {ops : List Oper} (N t : Nat) {b i E : Nat} {cs : List Value} {L0 : List Assn} (hm : P.follows .mixedOrders = true) (hN : ops.length = N) {ls : Array Bool} (hls : Array.replicate N false = ls) (_ : look al t = some (ptr b i)) (hp : Pick (Blk b E cs) L L0)
    (h : RH P f n κ K k ops.toArray L0 N N ls al L) : SG P f n κ K (.code (.region id ops.toArray true) :: k) al L := SG.drawN N N L0 hm hN hls (hp.trans (Ent.drop _ _)) h
theorem SG.drawP2 {id : Nat} {ops : List Oper} (N t t' : Nat) {b i E b' i' E' : Nat} {cs cs' : List Value} {L0 L1 : List Assn} (hm : P.follows .mixedOrders = true) (hN : ops.length = N) {ls : Array Bool} (hls : Array.replicate N false = ls) (_ : look al t = some (ptr b i)) (hp : Pick (Blk b E cs) L L1)
    (_ : look al t' = some (ptr b' i')) (hp' : Pick (Blk b' E' cs') L1 L0) (h : RH P f n κ K k ops.toArray L0 N N ls al L) : SG P f n κ K (.code (.region id ops.toArray true) :: k) al L := SG.drawN N N L0 hm hN hls ((hp.trans (Ent.drop _ _)).trans (hp'.trans (Ent.drop _ _))) h
theorem Wanted.un {j d : Nat} {x : Bool} (h : o.guard = some (j, x)) (hd : (ops[j]?).bind (·.dst) = some d) (hl : look al d = some undef) : Wanted n ops o al false := by
  intro a he
  have h2 := he.get d _ hl
  simp only [Region.wanted, h, yielded, hd, Option.bind_some]
  cases e : a.tmps[d]? with
  | none => rfl
  | some u =>
    rw [Array.getD_eq_getD_getElem?, e] at h2
    simp only [Option.getD_some] at h2
    subst h2
    rfl
end
end Go.Wk

namespace Go.Wk
section
variable {P : Program} {f : FuncId} {n : Nat} {κ : World} {K : Post} {L L1 : List Assn} {α : Type} {T : Rep α} {a : Option Addr} {m c : Nat} {l : List α} {e : TypeId}
/-- It holds of all memory together. -/
def Seen (R : Frag → Prop) (L : List Assn) : Prop := ∀ z h : Frag, z.disj h → Holds z L h → R (z.un h)
theorem Seen.sl (hm : Sl T a m c l ∈ L) : Seen (SlP T a m c l) L := fun z h _ H => by
  obtain ⟨_, _, z1, hz, _, _, _, hr, _⟩ := Pick.ro hm z h H
  exact hr.mono (hz.trans (Frag.le_un_left _ _))
theorem Seen.buf (hp : Pick (Buf T e a m c l) L L1) : Seen (SlP T a m c l) L := fun z h hd H => by
  obtain ⟨h1, h2, z1, g1, g2, g3, g4, ⟨k1, k2, k3, k4⟩, _⟩ := hp z h H
  refine ⟨k1, k2, k3, ?_⟩
  rcases k4 with ⟨rfl, rfl, rfl⟩ | ⟨b, pre, cs, rest, fz, rfl, hb, hf, hr, hl⟩
  · exact .inl rfl
  · refine .inr ⟨b, pre.length, cs, rfl, fun i u hu => ?_, hr.mono (g1.trans (Frag.le_un_left _ _))⟩
    have hi : i < cs.length := (List.getElem?_eq_some_iff.1 hu).1
    refine cellAt_mono (g3.trans (Frag.le_un_right hd)) ?_
    simp only [cellAt, hb]
    simp [List.getElem?_append_right, List.getElem?_append_left hi, hu]
theorem Ctr.read {ι : Type} {args : Array Value} {Rs : List (Frag → Prop)} {r : ι → Value} {N : ι → List Assn} (hR : ∀ R ∈ Rs, Seen R L)
    (h : ∀ L' : List Assn, (∀ R ∈ Rs, ro R ∈ L') → Ctr P f args κ L' (fun v M => ∃ i, v = r i ∧ M = N i ++ L'))
    (hN : ∀ i (z z' h : Frag), Holds z (N i) h → Holds z' (N i) h) : Ctr P f args κ L (fun v M => ∃ i, v = r i ∧ M = N i ++ L) := by
  rintro w ⟨s, z, x, d1, d2, d3, H⟩
  have hold : ∀ Rs' : List (Frag → Prop), (∀ R ∈ Rs', R (z.un x)) → Sep κ w (Rs'.map ro ++ [ro (fun y => (z.un x).le y)]) := by
    intro Rs' hs
    refine ⟨s, z.un x, Frag.emp, fun _ => .inr rfl, Frag.un_le d2 d3, Frag.emp_le _, ?_⟩
    induction Rs' with
    | nil => exact Holds.add_ro (Frag.le.refl _) trivial
    | cons R Rs' ih => exact Holds.add_ro (hs R (List.mem_cons_self ..)) (ih fun R' h' => hs R' (List.mem_cons_of_mem _ h'))
  refine Calls.mono (h _ (fun R hR' => List.mem_append.2 (.inl (List.mem_map_of_mem hR'))) w (hold Rs fun R hR' => hR R hR' z x d1 H)) ?_
  rintro e w' ⟨v, he, M, ⟨i, hv, hM⟩, hs⟩
  refine ⟨v, he, _, ⟨i, hv, rfl⟩, ?_⟩
  subst hM
  obtain ⟨s', z', x', e1, e2, e3, H'⟩ := hs
  obtain ⟨ha, hb, g1, g2, g3, g4, g5⟩ := Holds.split H'
  obtain ⟨ha', hb', f1, f2, f3, f4, f5⟩ := Holds.split g5
  obtain ⟨_, _, z1, k1, _, _, _, k2, _⟩ := f5
  have hle : (z.un x).le z' := k2.trans k1
  have hz : z.le z' := (Frag.le_un_left _ _).trans hle
  have hx : x.le z' := (Frag.le_un_right d1).trans hle
  refine ⟨s', z, ha.un x, ?_, hz.trans e2, Frag.un_le (g2.trans e3) (hx.trans e2), ?_⟩
  · exact (Frag.un_disj (e1.mono hz g2).symm d1.symm).symm
  · exact Holds.app (e1.mono hx g2).symm (Frag.le_un_left _ _) (Frag.le_un_right (e1.mono hx g2).symm) (hN i _ _ _ g4) H
theorem Ctr.read0 {args : Array Value} {Rs : List (Frag → Prop)} {r : Value} (hR : ∀ R ∈ Rs, Seen R L)
    (h : ∀ L' : List Assn, (∀ R ∈ Rs, ro R ∈ L') → Ctr P f args κ L' (fun v M => v = r ∧ M = L')) : Ctr P f args κ L (fun v M => v = r ∧ M = L) :=
  (Ctr.read (ι := Unit) (r := fun _ => r) (N := fun _ => []) hR (fun L' hL' => (h L' hL').mono (Ent.refl _) fun _ _ hK => ⟨(), hK.1, hK.2⟩) (fun _ _ _ _ _ => trivial)).mono (Ent.refl _) fun _ _ ⟨_, h1, h2⟩ => ⟨h1, h2⟩
/-- These cells lie k behind a. -/
def At (a : Option Addr) (k : Nat) (us : List Value) : Assn := ro fun z => ∃ b o, a = some ⟨b, o, none⟩ ∧ Row z b (o + k) us
theorem SlP.elem {z : Frag} {j : Nat} {y : α} (h : SlP T a m c l z) (hy : l[j]? = some y) : ∃ us, T.rep z us y ∧ us.length = T.sz ∧ ∃ b o, a = some ⟨b, o, none⟩ ∧ Row z b (o + j * T.sz) us := by
  obtain ⟨h1, _, _, h4⟩ := h
  have hj : j < l.length := (List.getElem?_eq_some_iff.1 hy).1
  rcases h4 with h4 | ⟨b, off, cs, rfl, hr, hrows⟩
  · omega
  · exact ⟨_, hrows.2 j y hy, T.len (hrows.2 j y hy), b, off, rfl, hr.sub (j * T.sz) T.sz⟩
theorem SG.elem {k : List Item} {al : List (Nat × Value)} {j : Nat} {y : α} (hm : Sl T a m c l ∈ L) (hy : l[j]? = some y) (h : ∀ us, us.length = T.sz → SG P f n κ K k al (Rd T us y :: At a (j * T.sz) us :: L)) : SG P f n κ K k al L := fun a' w he ⟨s, z, hh, d1, d2, d3, H⟩ => by
  obtain ⟨_, _, z1, hz1, _, _, _, hr, _⟩ := Pick.ro hm z hh H
  obtain ⟨us, g1, g2, g3⟩ := (hr.mono hz1).elem hy
  exact h us g2 a' w he ⟨s, z, hh, d1, d2, d3, Holds.add_ro g1 (Holds.add_ro g3 H)⟩
theorem V.loadAt {al : List (Nat × Value)} {o : Oper} {T' k m' : Nat} {x : Operand} {us : List Value} (ho : o.op = .load T' x) (hT : Agg P T' m') (hx : ev al x = some (eptr a k)) (hm : At a k us ∈ L) (hlen : us.length = m') : OpV P n κ al L o (.agg us.toArray) := fun a' w he hs => by
  subst hlen
  obtain ⟨z, hz, b, off, rfl, hr⟩ := hs.get_ro hm
  have hl : (loadCells ⟨b, off + k, none⟩ us.length).run P w = .ok us.toArray w := by
    refine run_loadCells_list w _ us fun i u hi => ?_
    rw [addr_add]
    exact cell_of_row hz hr hi
  have hg := hT.agg w
  obtain ⟨d, ti, e1, e2, e3, e4⟩ := hT
  have hx' := he.ev hx
  simp [eptr, addr_add] at hx'
  rw [← e4] at hl
  simp [execOp, ho, hx', Instr.loadAt, Instr.sureAddr, loadVar, hg, run_sizeOf_info e3, hl]
theorem SG.cut {k : List Item} {al : List (Nat × Value)} {lo hi : Nat} {l' : List α} (hm : Sl T a m c l ∈ L) (h1 : lo ≤ hi) (h2 : hi ≤ m) (e : (l.drop lo).take (hi - lo) = l') (h : SG P f n κ K k al (Sl T (cutA a lo T.sz c) (hi - lo) (c - lo) l' :: L)) : SG P f n κ K k al L :=
  SG.ent (by subst e; exact Sl.cut_ent hm h1 h2) h
end
end Go.Wk

namespace Go.Wk
open Go.ChangeShapes Go.RowKit

/-- What the reading of a value of type t says, in our terms. -/
structure Opens (P : Program) (t : TypeId) {α : Type} (T : Rep α) : Prop where
  sz : P.cellsOf t = T.sz
  op : ∀ {H : Type} {enc : TypeId × Value → H} {W : World} {n : Nat} {cs : List Value} {x : DataW H × List MemPlace}, DataW.trod enc P W 0 (fun _ => true) true n t cs = some x → ∃ y, T.rep (Frag.of W) cs y

section
variable {P : Program} {t e : TypeId} {α : Type} {T : Rep α}

theorem trod_int {k : IntKind} {H : Type} {enc : TypeId × Value → H} {W : World} {n : Nat} {cs : List Value} {x : DataW H × List MemPlace} (ht : P.underlying t = some (.int k)) (h : DataW.trod enc P W 0 (fun _ => true) true n t cs = some x) :
    ∃ i : Int, cs = [.int k i] ∧ k.min ≤ i ∧ i ≤ k.max := by
  obtain ⟨i, e, _, hw⟩ := DataW.trod_int ht h
  simp only [Lit.wf, Bool.and_eq_true, decide_eq_true_eq] at hw
  exact ⟨i, e, hw.1, hw.2⟩

theorem Opens.u8 (ht : P.underlying t = some (.int .u8)) (hc : P.cellsOf t = 1) : Opens P t R8 := ⟨hc, fun h => by
  obtain ⟨i, rfl, h1, h2⟩ := trod_int ht h
  have h1' : 0 ≤ i := h1
  have h2' : i ≤ 255 := h2
  refine ⟨UInt8.ofNat i.toNat, ?_, trivial⟩
  have : ((UInt8.ofNat i.toNat).toNat : Int) = i := by rw [UInt8.toNat_ofNat']; omega
  simp only [v8, this]⟩
theorem Opens.u32 (ht : P.underlying t = some (.int .u32)) (hc : P.cellsOf t = 1) : Opens P t R32 := ⟨hc, fun h => by
  obtain ⟨i, rfl, h1, h2⟩ := trod_int ht h
  have h1' : 0 ≤ i := h1
  have h2' : i ≤ 4294967295 := h2
  refine ⟨UInt32.ofNat i.toNat, ?_, trivial⟩
  have : ((UInt32.ofNat i.toNat).toNat : Int) = i := by rw [UInt32.toNat_ofNat']; omega
  simp only [v32, this]⟩
theorem Opens.u64 (ht : P.underlying t = some (.int .u64)) (hc : P.cellsOf t = 1) : Opens P t R64 := ⟨hc, fun h => by
  obtain ⟨i, rfl, h1, h2⟩ := trod_int ht h
  have h1' : 0 ≤ i := h1
  have h2' : i ≤ 18446744073709551615 := h2
  refine ⟨UInt64.ofNat i.toNat, ?_, trivial⟩
  have : ((UInt64.ofNat i.toNat).toNat : Int) = i := by rw [UInt64.toNat_ofNat']; omega
  simp only [v64, this]⟩
theorem Opens.i64 (ht : P.underlying t = some (.int .i64)) (hc : P.cellsOf t = 1) : Opens P t RI := ⟨hc, fun h => by
  obtain ⟨i, rfl, h1, h2⟩ := trod_int ht h
  exact ⟨i, rfl, h1, h2⟩⟩
theorem Opens.bool (ht : P.underlying t = some .bool) (hc : P.cellsOf t = 1) : Opens P t RB := ⟨hc, fun h => by
  obtain ⟨b, rfl, _⟩ := DataW.trod_bool ht h
  exact ⟨b, rfl, trivial⟩⟩
theorem Opens.str (ht : P.underlying t = some .string) (hc : P.cellsOf t = 1) : Opens P t RS := ⟨hc, fun h => by
  obtain ⟨s, rfl, _, hs⟩ := DataW.trod_string ht h
  refine ⟨s.data.toList, rfl, ?_⟩
  have : s.size = s.data.toList.length := rfl
  have hm : maxLen = 9223372036854775807 := rfl
  omega⟩

theorem add_block (a : Addr) (m : Nat) : (a.add m).block = a.block := by unfold Addr.add; split <;> rfl
theorem add_off (a : Addr) (m : Nat) : (a.add m).off = a.off + m := by
  unfold Addr.add; split
  · rename_i h; omega
  · rfl
theorem cells_row {W : World} {a : Addr} {n : Nat} {cs : List Value} (h : W.cells? 0 a n = some cs) (hn : 0 < n) : a.spot = none ∧ Row (Frag.of W) a.block a.off cs := by
  obtain ⟨_, hl, hc⟩ := World.cells?_some h
  have key : ∀ i u, cs[i]? = some u → (a.add i).spot = none ∧ cellAt (Frag.of W) a.block (a.off + i) = some u := by
    intro i u hu
    have hi : i < n := by rw [← hl]; exact (List.getElem?_eq_some_iff.1 hu).1
    have := hc i hi
    rw [hu] at this
    simp only [World.cell?] at this
    rw [add_block, add_off] at this
    simp only [cellAt, Frag.of]
    cases hb : W.heap[a.block]? with
    | none => rw [hb] at this; cases this
    | some o =>
      rw [hb] at this
      cases o with
      | cells c _ _ =>
        cases hs : (a.add i).spot with
        | none => exact ⟨rfl, by rw [hs] at this; simpa using this⟩
        | some _ => rw [hs] at this; simp at this
      | _ => cases this
  refine ⟨?_, fun i u hu => (key i u hu).2⟩
  have h0 : 0 < cs.length := by omega
  exact (key 0 cs[0] (List.getElem?_eq_getElem h0)).1

theorem Row.join {z : Frag} {b o : Nat} {cs cs' : List Value} (h : Row z b o cs) (h' : Row z b (o + cs.length) cs') : Row z b o (cs ++ cs') := fun i u hu => by
  by_cases hi : i < cs.length
  · rw [List.getElem?_append_left hi] at hu; exact h i u hu
  · rw [List.getElem?_append_right (by omega)] at hu
    have := h' _ u hu
    rwa [show o + cs.length + (i - cs.length) = o + i from by omega] at this

theorem Opens.slice (ht : P.underlying t = some (.slice e)) (hc : P.cellsOf t = 1) (O : Opens P e T) (h0 : 0 < T.sz) : Opens P t (Rep.slice T) := ⟨hc, fun {H enc W n cs x} h => by
  rcases DataW.trod_slice ht h with ⟨rfl, _⟩ | ⟨a, len, cap, elems, rest, n', _, rfl, _, _, hlc, hcm, hel, hget, _, _⟩
  · exact ⟨[], none, 0, 0, rfl, rfl, Nat.le_refl _, by omega, .inl rfl⟩
  · rw [O.sz] at hget
    -- the cells and the data, one place at a time
    have key : ∀ k, k ≤ len → ∃ (cs : List Value) (l : List α), l.length = k ∧ T.rows (Frag.of W) cs l ∧ (0 < k → a.spot = none) ∧ Row (Frag.of W) a.block a.off cs := by
      intro k
      induction k with
      | zero => exact fun _ => ⟨[], [], rfl, Rep.rows.nil T _, fun h => absurd h (by omega), fun i u hu => by simp at hu⟩
      | succ k ih =>
        intro hk
        obtain ⟨cs, l, e1, e2, e3, e4⟩ := ih (by omega)
        have hy := hget k (by omega)
        rw [List.getElem?_eq_getElem (by omega)] at hy
        cases hcs : W.cells? 0 (a.add (k * T.sz)) T.sz with
        | none => rw [hcs] at hy; cases hy
        | some us =>
          rw [hcs] at hy
          obtain ⟨d, hd⟩ := O.op hy
          obtain ⟨f1, f2⟩ := cells_row hcs h0
          have hcl : cs.length = k * T.sz := by rw [e2.1, e1]
          rw [add_block, add_off] at f2
          have f3 : a.spot = none := by
            by_cases hk0 : k = 0
            · subst hk0
              rw [Nat.zero_mul] at f1
              exact f1
            · exact e3 (by omega)
          refine ⟨cs ++ us, l ++ [d], by simp [e1], Rep.rows.append e2 (Rep.rows.single hd), fun _ => f3, e4.join ?_⟩
          rw [hcl]; exact f2
    obtain ⟨cs, l, e1, e2, e3, e4⟩ := key len (Nat.le_refl _)
    refine ⟨l, some a, len, cap, rfl, e1, hlc, by have hm : maxLen = 9223372036854775807 := rfl; omega, ?_⟩
    by_cases hl : len = 0
    · exact .inl hl
    · refine .inr ⟨a.block, a.off, cs, ?_, e4, e2⟩
      have := e3 (by omega)
      cases a; simp at this; subst this; rfl⟩

/-- The fields of a struct. -/
theorem trod_fields {fs : Array Field} {H : Type} {enc : TypeId × Value → H} {W : World} {n : Nat} {cs : List Value} {x : DataW H × List MemPlace} (ht : P.underlying t = some (.struct fs)) (h : DataW.trod enc P W 0 (fun _ => true) true n t cs = some x) :
    cs.length = P.cellsOf t ∧ ∃ n', ∀ (i : Nat) (f : Field), fs[i]? = some f → ∃ y, DataW.trod enc P W 0 (fun _ => true) true n' f.type ((cs.drop f.offset).take (P.cellsOf f.type)) = some y := by
  obtain ⟨xs, n', _, _, hl, hlen, hget⟩ := DataW.trod_struct ht h
  refine ⟨hl, n', fun i f hf => ?_⟩
  have hi : i < fs.size := (Array.getElem?_eq_some_iff.1 hf).1
  rw [hget i f hf, List.getElem?_eq_getElem (by omega)]
  exact ⟨_, rfl⟩

/-- An argument of one cell. -/
theorem Opens.arg {r : Reach} {base : Nat} {H : Type} {enc : TypeId × Value → H} {W : World} {v : Value} {d : DataW H} {ps : List MemPlace} (O : Opens P t T) (hs : ∀ fs, P.underlying t ≠ some (.struct fs)) (hr : ∀ n e, P.underlying t ≠ some (.array n e))
    (hval : Value.okWide P W r base t v) (h : DataW.Trod enc P W 0 (fun _ => true) true t v d ps) : ∃ y, T.rep (Frag.of W) [v] y := by
  obtain ⟨n, hn⟩ := h
  obtain ⟨y, hy⟩ := O.op hn
  refine ⟨y, ?_⟩
  have hv : v.cells = #[v] := by
    cases v with
    | agg cs =>
      exfalso
      unfold Value.okWide at hval
      split at hval
      · rename_i fs hf; exact hs fs hf
      · rename_i m e' hf; exact hr m e' hf
      · unfold Cell.okWide at hval
        split at hval <;> try (rename_i h1; cases h1)
        unfold Cell.ok at hval
        split at hval <;> simp_all
    | _ => rfl
  rw [hv] at hy
  exact hy
theorem Opens.argS {r : Reach} {base : Nat} {H : Type} {enc : TypeId × Value → H} {W : World} {v : Value} {d : DataW H} {ps : List MemPlace} {fs : Array Field} (O : Opens P t T) (hs : P.underlying t = some (.struct fs))
    (hval : Value.okWide P W r base t v) (h : DataW.Trod enc P W 0 (fun _ => true) true t v d ps) : ∃ us y, v = .agg us.toArray ∧ T.rep (Frag.of W) us y := by
  obtain ⟨n, hn⟩ := h
  obtain ⟨y, hy⟩ := O.op hn
  unfold Value.okWide at hval
  rw [hs] at hval
  obtain ⟨cs, rfl, _⟩ := hval
  exact ⟨cs.toList, y, rfl, hy⟩
end

/- THE BEGINNING AND THE END -/
/-- What was there when the law was called is there. -/
def Old (κ : World) : Assn := ro fun z => ∀ k, k < κ.heap.size → z k = κ.heap[k]?
theorem Sep.start (κ : World) (Rs : List (Frag → Prop)) (h : ∀ R ∈ Rs, R (Frag.of κ)) : Sep κ κ (Old κ :: Rs.map ro) := by
  refine ⟨Sys.refl _, Frag.of κ, Frag.emp, fun _ => .inr rfl, Frag.le.refl _, Frag.emp_le _, Holds.add_ro (fun k _ => rfl) ?_⟩
  induction Rs with
  | nil => trivial
  | cons R Rs ih => exact Holds.add_ro (h R (List.mem_cons_self ..)) (ih fun R' h' => h R' (List.mem_cons_of_mem _ h'))
theorem Sep.below {κ w : World} {L : List Assn} (hs : Sep κ w L) (hm : Old κ ∈ L) : Below κ.heap.size κ w := by
  obtain ⟨z, hz, hr⟩ := hs.get_ro hm
  have hb : ∀ k, k < κ.heap.size → w.heap[k]? = κ.heap[k]? := fun k hk => by
    have h1 := hr k hk
    rw [Array.getElem?_eq_getElem hk] at h1 ⊢
    exact hz k _ h1
  refine ⟨hs.1.os, hs.1.tape, hs.1.output, ?_, hb⟩
  by_cases h0 : κ.heap.size = 0
  · omega
  · have h1 := hb (κ.heap.size - 1) (by omega)
    rw [Array.getElem?_eq_getElem (xs := κ.heap) (by omega)] at h1
    have := (Array.getElem?_eq_some_iff.1 h1).1
    omega

theorem TrodAll.below {H : Type} {enc : TypeId × Value → H} {P : Program} (hl : laidOutB P = true) {W W' : World} (hb : Below W.heap.size W W') {sp : Nat → Bool} : ∀ {ts : List TypeId} {vs : List Value} {ds : List (DataW H)} {ps : List MemPlace},
    (∀ t ∈ ts, P.readableRec t = true ∧ t < P.types.size) → DataW.TrodAll enc P W 0 (fun _ => true) true ts vs ds ps → (∀ p ∈ ps, p.block < W.heap.size) → (∀ p ∈ ps, sp p.block = true) → DataW.TrodAll enc P W' 0 sp true ts vs ds ps
  | [], vs, ds, ps, _, h, _, _ => by
    obtain ⟨rfl, rfl, rfl⟩ := trodAll_nil h
    exact trodAll_mk0
  | t :: ts, vs, ds, ps, ht, h, hlt, hsp => by
    obtain ⟨v, vs', d, ds', p, q, rfl, rfl, rfl, h1, h2⟩ := trodAll_cons h
    obtain ⟨g1, g2⟩ := ht t (List.mem_cons_self ..)
    exact ⟨p, q, WideElems.Trod_stays hl g1 g2 h1 (fun x hx => hb.same (hlt x (List.mem_append.2 (.inl hx)))) (fun x hx => hsp x (List.mem_append.2 (.inl hx))),
      TrodAll.below hl hb (fun t' h' => ht t' (List.mem_cons_of_mem _ h')) h2 (fun x hx => hlt x (List.mem_append.2 (.inr hx))) (fun x hx => hsp x (List.mem_append.2 (.inr hx))), rfl⟩

theorem frozen_below {W W' : World} (hb : Below W.heap.size W W') {a : Addr} (ha : a.block < W.heap.size) : W'.frozen? a = W.frozen? a := hb.frozen ha

/-- A law that returns true and leaves its arguments as they were. -/
theorem law_post {H : Type} {enc : TypeId × Value → H} {P : Program} {f : FuncId} {fn : Func} {s : ChangeSpec} {apart fresh handsOn again : Bool} {W : World} {args : Array Value} {ds gs : List (DataW H)} {before : List MemPlace} {tb : TypeId}
    (hvars : s.vars = []) (hres : fn.resultTypes = #[tb]) (hub : P.underlying tb = some .bool) (hspec : ∀ ds' : List (DataW H), ds'.length = fn.params.size → s.fn H ds' = { results := [.lit (.bool true)], args := ds' }) (hlaid : laidOutB P = true)
    (hpt : ∀ t ∈ fn.params.toList, P.readableRec t = true ∧ t < P.types.size) (hW : DataW.Whole enc P fn.params.toList s.vars apart W args.toList ds gs before)
    (walk : ∃ L, Old W ∈ L ∧ Sep W W L ∧ Ctr P f args W L (fun v M => v = vB true ∧ M = L)) :
    Calls P f args W fun e W' => ∃ v, e = .returned v ∧ s.post enc P fn apart fresh handsOn again W args v W' := by
  obtain ⟨L, hold, hsep, hctr⟩ := walk
  refine (hctr W hsep).mono ?_
  rintro e W' ⟨v, he, M, ⟨rfl, rfl⟩, hs'⟩
  have hb := hs'.below hold
  refine ⟨_, he, ?_⟩
  obtain ⟨p, q, hA, hV, hbe, hfz, hnd⟩ := hW
  have hW0 : DataW.Whole enc P fn.params.toList s.vars apart W args.toList ds gs before := ⟨p, q, hA, hV, hbe, hfz, hnd⟩
  have hlt := hW0.lt
  rw [hvars] at hV
  obtain ⟨rfl, rfl⟩ := trodVars_none hV
  rw [List.append_nil] at hbe
  subst hbe
  have hlen : ds.length = fn.params.size := by rw [(Go.trodAll_length hA).2]; simp
  have hs := hspec ds hlen
  refine ⟨ds, [], before, [], before, [], hW0, ?_, ?_, ?_, hb.frame _, fun _ => ?_⟩
  · rw [List.append_nil, hs, hres]
    exact trodAll_mk1 (shut_bool hub true)
  · rw [List.append_nil, hs]
    exact TrodAll.below hlaid hb hpt hA hlt fun x hx => by simpa using hlt x hx
  · rw [List.append_nil, hs, hvars]; rfl
  · refine ⟨ok_one hres rfl (okWide_bool_mk hub true), .lit (.bool true) :: ds, [], [] ++ before, ⟨[] ++ before, [], ?_, ?_, by simp, ?_, ?_⟩, ?_⟩
    · rw [hres]
      exact trodAll_append (TrodAll.below hlaid hb hpt hA hlt fun _ _ => rfl) (trodAll_mk1 (shut_bool hub true))
    · rw [hvars]; rfl
    · intro b off hp
      have hp' : MemPlace.cell b off ∈ before := by simpa using hp
      rw [hb.frozen (p := ⟨b, off, none⟩) (hlt _ hp')]
      exact hfz b off (by simpa using hp)
    · intro ha
      simpa using hnd ha
    · intro x hx _
      simpa using hx
end Go.Wk
