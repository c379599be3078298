/- A separation logic of blocks over the model's memory, and symbolic execution of a function's code by it. Independent of any program. -/
import Derived.WalkKit
import Derived.Orders
import Derived.OrdersHeld
namespace Go.Wk

/- 1. FRAGMENTS AND ASSERTIONS -/

abbrev Frag := Nat → Option Obj
def Frag.le (h h' : Frag) : Prop := ∀ k o, h k = some o → h' k = some o
def Frag.disj (h h' : Frag) : Prop := ∀ k, h k = none ∨ h' k = none
def Frag.emp : Frag := fun _ => none
def Frag.one (b : Nat) (o : Obj) : Frag := fun k => if k = b then some o else none
def Frag.un (h h' : Frag) : Frag := fun k => match h k with | some o => some o | none => h' k
def Frag.of (w : World) : Frag := fun k => w.heap[k]?

theorem Frag.le.refl (h : Frag) : h.le h := fun _ _ x => x
theorem Frag.le.trans {a b c : Frag} (h : a.le b) (h' : b.le c) : a.le c := fun k o x => h' k o (h k o x)
theorem Frag.emp_le (h : Frag) : Frag.emp.le h := fun _ _ x => by cases x
theorem Frag.le_un_left (a b : Frag) : a.le (a.un b) := fun k o x => by simp [Frag.un, x]
theorem Frag.le_un_right {a b : Frag} (h : a.disj b) : b.le (a.un b) := fun k o x => by
  rcases h k with h | h
  · simp [Frag.un, h, x]
  · rw [h] at x; cases x
theorem Frag.un_le {a b c : Frag} (h : a.le c) (h' : b.le c) : (a.un b).le c := fun k o x => by
  simp only [Frag.un] at x
  split at x
  · rename_i o' e; cases x; exact h k _ e
  · exact h' k o x
theorem Frag.disj.symm {a b : Frag} (h : a.disj b) : b.disj a := fun k => (h k).symm
theorem Frag.disj.mono {a b a' b' : Frag} (h : a.disj b) (ha : a'.le a) (hb : b'.le b) : a'.disj b' := fun k => by
  rcases h k with h | h
  · left
    cases e : a' k with
    | none => rfl
    | some o => rw [ha k o e] at h; cases h
  · right
    cases e : b' k with
    | none => rfl
    | some o => rw [hb k o e] at h; cases h
theorem Frag.emp_disj (h : Frag) : Frag.emp.disj h := fun _ => .inl rfl
theorem Frag.un_disj {a b c : Frag} (h : a.disj c) (h' : b.disj c) : (a.un b).disj c := fun k => by
  rcases h k with h | h
  · rcases h' k with h' | h'
    · left; simp [Frag.un, h, h']
    · exact .inr h'
  · exact .inr h

/-- An assertion: of the immutable part of memory and of a fragment of its own. -/
abbrev Assn := Frag → Frag → Prop

def Holds (z : Frag) : List Assn → Frag → Prop
  | [], _ => True
  | A :: L, h => ∃ h1 h2 z1, z1.le z ∧ h1.disj h2 ∧ h1.le h ∧ h2.le h ∧ A z1 h1 ∧ Holds z L h2

theorem Holds.mono {z z' : Frag} (hz : z.le z') : ∀ {L : List Assn} {h h' : Frag}, h.le h' → Holds z L h → Holds z' L h'
  | [], _, _, _, _ => trivial
  | _ :: _, _, _, hh, ⟨h1, h2, z1, a, b, c, d, e, f⟩ => ⟨h1, h2, z1, a.trans hz, b, c.trans hh, d.trans hh, e, Holds.mono hz (Frag.le.refl _) f⟩

/-- The streams are as they were. -/
structure Sys (κ w : World) : Prop where
  os : w.os = κ.os
  tape : w.tape = κ.tape
  output : w.output = κ.output
theorem Sys.refl (κ : World) : Sys κ κ := ⟨rfl, rfl, rfl⟩

/-- The memory holds these assertions, each over memory of its own, apart from what is immutable. -/
def Sep (κ w : World) (L : List Assn) : Prop :=
  Sys κ w ∧ ∃ z h : Frag, z.disj h ∧ z.le (Frag.of w) ∧ h.le (Frag.of w) ∧ Holds z L h

def Ent (L L' : List Assn) : Prop := ∀ z h, Holds z L h → Holds z L' h
theorem Ent.refl (L : List Assn) : Ent L L := fun _ _ h => h
theorem Ent.trans {a b c : List Assn} (h : Ent a b) (h' : Ent b c) : Ent a c := fun z x y => h' z x (h z x y)
theorem Ent.frame {L L' : List Assn} (A : Assn) (h : Ent L L') : Ent (A :: L) (A :: L') :=
  fun z _ ⟨h1, h2, z1, a, b, c, d, e, f⟩ => ⟨h1, h2, z1, a, b, c, d, e, h z h2 f⟩
theorem Ent.swap (A B : Assn) (L : List Assn) : Ent (A :: B :: L) (B :: A :: L) := by
  rintro z h ⟨h1, h2, z1, a, b, c, d, e, ⟨h3, h4, z2, a', b', c', d', e', f⟩⟩
  have h13 : h1.disj h3 := b.mono (Frag.le.refl _) c'
  have h14 : h1.disj h4 := b.mono (Frag.le.refl _) d'
  refine ⟨h3, h1.un h4, z2, a', ?_, c'.trans d, Frag.un_le c (d'.trans d), e', h1, h4, z1, a, h14, Frag.le_un_left _ _, Frag.le_un_right h14, e, f⟩
  exact (Frag.un_disj h13 b'.symm).symm
theorem Ent.drop (A : Assn) (L : List Assn) : Ent (A :: L) L :=
  fun _ _ ⟨_, _, _, _, _, _, d, _, f⟩ => Holds.mono (Frag.le.refl _) d f
theorem Ent.nil (L : List Assn) : Ent L [] := fun _ _ _ => trivial

theorem Sep.ent {κ w : World} {L L' : List Assn} (h : Sep κ w L) (e : Ent L L') : Sep κ w L' :=
  let ⟨s, z, x, a, b, c, d⟩ := h; ⟨s, z, x, a, b, c, e z x d⟩

/-- A stands in L, and L1 is the rest. -/
def Pick (A : Assn) (L L1 : List Assn) : Prop := Ent L (A :: L1)
theorem Pick.here {A : Assn} {L : List Assn} : Pick A (A :: L) L := Ent.refl _
theorem Pick.there {A B : Assn} {L L1 : List Assn} (h : Pick A L L1) : Pick A (B :: L) (B :: L1) :=
  (Ent.frame B h).trans (Ent.swap B A L1)
theorem Ent.cons {A : Assn} {L L1 L' : List Assn} (h : Pick A L L1) (h' : Ent L1 L') : Ent L (A :: L') := h.trans (Ent.frame A h')

/-- What is immutable: it may be said as often as one likes. -/
def ro (R : Frag → Prop) : Assn := fun z _ => R z
theorem Pick.ro {R : Frag → Prop} : ∀ {L : List Assn}, ro R ∈ L → Pick (ro R) L L
  | B :: L, hm => by
    rcases List.mem_cons.1 hm with rfl | hm
    · rintro z h ⟨h1, h2, z1, a, b, c, d, e, f⟩
      exact ⟨Frag.emp, h, z1, a, Frag.emp_disj _, Frag.emp_le _, Frag.le.refl _, e, h1, h2, z1, a, b, c, d, e, f⟩
    · rintro z h ⟨h1, h2, z1, a, b, c, d, e, f⟩
      obtain ⟨h3, h4, z2, a', b', c', d', e', f'⟩ := Pick.ro hm z h2 f
      exact ⟨Frag.emp, h, z2, a', Frag.emp_disj _, Frag.emp_le _, Frag.le.refl _, e', h1, h2, z1, a, b, c, d, e, f⟩

/-- Into what is immutable. -/
theorem Sep.publish {κ w : World} {A : Assn} {L : List Assn} {R : Frag → Prop} (h : Sep κ w (A :: L)) (hR : ∀ z h z', A z h → z.le z' → h.le z' → R z') :
    Sep κ w (ro R :: L) := by
  obtain ⟨s, z, x, a, b, c, h1, h2, z1, e, f, g, i, j, k⟩ := h
  have hzd : z.disj h1 := a.mono (Frag.le.refl _) g
  refine ⟨s, z.un h1, h2, ?_, Frag.un_le b (g.trans c), i.trans c, Frag.emp, h2, z.un h1, Frag.le.refl _, Frag.emp_disj _, Frag.emp_le _, Frag.le.refl _, ?_, ?_⟩
  · exact Frag.un_disj (a.mono (Frag.le.refl _) i) f
  · exact hR z1 h1 _ j (e.trans (Frag.le_un_left _ _)) (Frag.le_un_right hzd)
  · exact Holds.mono (Frag.le_un_left _ _) (Frag.le.refl _) k

/-- What is immutable may be concluded from what is immutable. -/
theorem Ent.ro_ro {L : List Assn} {R R' : Frag → Prop} (h : ∀ z, R z → R' z) : Ent (ro R :: L) (ro R' :: L) :=
  fun _ _ ⟨h1, h2, z1, a, b, c, d, e, f⟩ => ⟨h1, h2, z1, a, b, c, d, h z1 e, f⟩

theorem Sep.get_ro {κ w : World} {L : List Assn} {R : Frag → Prop} (h : Sep κ w L) (hm : ro R ∈ L) : ∃ z : Frag, z.le (Frag.of w) ∧ R z := by
  obtain ⟨_, z, x, a, b, c, d⟩ := h
  obtain ⟨_, _, z1, e, _, _, _, f, _⟩ := Pick.ro hm z x d
  exact ⟨z1, e.trans b, f⟩

/- 2. BLOCKS -/

theorem Below_heap_alloc (w : World) (o : Obj) (k : Nat) (h : k < w.heap.size) : (w.alloc o).heap[k]? = w.heap[k]? := Go.RowKit.Below.heap_alloc w o k h


/-- Block b is a row of these cells; it is ours. -/
def Blk (b : Nat) (T : TypeId) (cs : List Value) : Assn := fun _ h => h b = some (.cells cs.toArray T (0, 0))

theorem Sep.blk {κ w : World} {b : Nat} {T : TypeId} {cs : List Value} {L L1 : List Assn} (h : Sep κ w L) (hp : Pick (Blk b T cs) L L1) :
    w.heap[b]? = some (.cells cs.toArray T (0, 0)) := by
  obtain ⟨_, z, x, a, bb, c, d⟩ := h
  obtain ⟨h1, _, _, _, _, g, _, i, _⟩ := hp z x d
  exact c b _ (g b _ i)

theorem Sep.drew {κ w : World} {L : List Assn} (h : Sep κ w L) (n : Nat) : Sep κ { w with drawn := n } L :=
  let ⟨s, z, x, r⟩ := h; ⟨⟨s.os, s.tape, s.output⟩, z, x, r⟩

/-- A new block, of whatever kind. -/
theorem Sep.new {κ w : World} {L : List Assn} {A : Assn} {o : Obj} (h : Sep κ w L) (hA : ∀ z, A z (Frag.one w.heap.size o)) : Sep κ (w.alloc o) (A :: L) := by
  obtain ⟨s, z, x, a, b, c, d⟩ := h
  have hlt : ∀ {f : Frag}, f.le (Frag.of w) → f w.heap.size = none := fun {f} hf => by
    cases e : f w.heap.size with
    | none => rfl
    | some o' => have := hf _ _ e; simp [Frag.of] at this
  have hup : ∀ {f : Frag}, f.le (Frag.of w) → f.le (Frag.of (w.alloc o)) := fun {f} hf k o' e => by
    have hk := hf k o' e
    simp only [Frag.of] at hk ⊢
    have hlt : k < w.heap.size := (Array.getElem?_eq_some_iff.1 hk).1
    rw [show (w.alloc o).heap[k]? = w.heap[k]? from Below_heap_alloc w o k hlt]; exact hk
  have hone : (Frag.one w.heap.size o).le (Frag.of (w.alloc o)) := fun k o' e => by
    simp only [Frag.one] at e
    split at e
    · rename_i hk; cases e; subst hk; exact heap_alloc_new w o
    · cases e
  have d1 : ∀ {f : Frag}, f.le (Frag.of w) → f.disj (Frag.one w.heap.size o) := fun {f} hf k => by
    by_cases hk : k = w.heap.size
    · left; subst hk; exact hlt hf
    · right; simp [Frag.one, hk]
  refine ⟨⟨s.os, s.tape, s.output⟩, z, x.un (Frag.one w.heap.size o), ?_, hup b, Frag.un_le (hup c) hone, Frag.one w.heap.size o, x, z, Frag.le.refl _, (d1 c).symm, Frag.le_un_right (d1 c), Frag.le_un_left _ _, hA z, d⟩
  exact (Frag.un_disj a.symm (d1 b).symm).symm

theorem Sep.alloc {κ w : World} {L : List Assn} {cs : List Value} {T : TypeId} (h : Sep κ w L) : Sep κ (w.alloc (.cells cs.toArray T)) (Blk w.heap.size T cs :: L) :=
  h.new (fun _ => by simp [Blk, Frag.one])

/-- A block that is ours is changed. -/
theorem Sep.change {κ w w' : World} {L L1 : List Assn} {A A' : Assn} {b : Nat} {o o' : Obj} (h : Sep κ w L) (hp : Pick A L L1)
    (hA : ∀ z h1, A z h1 → h1 b = some o ∧ ∀ h2 : Frag, h2 b = some o' → (∀ k, k ≠ b → h2 k = h1 k) → A' z h2)
    (hs : Sys w w') (hb : w'.heap[b]? = some o') (hk : ∀ k, k ≠ b → w'.heap[k]? = w.heap[k]?) : Sep κ w' (A' :: L1) := by
  obtain ⟨s, z, x, a, bb, c, d⟩ := h
  obtain ⟨h1, h2, z1, e, f, g, i, j, k⟩ := hp z x d
  obtain ⟨ho, hA'⟩ := hA z1 h1 j
  let h1' : Frag := fun k => if k = b then some o' else h1 k
  have hz : ∀ {y : Frag}, y.disj h1 → y b = none := fun {y} hy => by
    rcases hy b with hy | hy
    · exact hy
    · rw [ho] at hy; cases hy
  have hkeep : ∀ {y : Frag}, y b = none → y.le (Frag.of w) → y.le (Frag.of w') := fun {y} hy hle k' o'' e' => by
    have hne : k' ≠ b := fun e2 => by subst e2; rw [hy] at e'; cases e'
    simp only [Frag.of, hk k' hne]; exact hle k' o'' e'
  have hzd : z.disj h1 := a.mono (Frag.le.refl _) g
  have hd' : ∀ {y : Frag}, y b = none → y.disj h1 → y.disj h1' := fun {y} hy hyd k' => by
    by_cases e2 : k' = b
    · left; subst e2; exact hy
    · rcases hyd k' with hyd | hyd
      · exact .inl hyd
      · right; simp [h1', e2, hyd]
  have h2b : h2 b = none := hz f.symm
  have h1le : h1'.le (Frag.of w') := fun k' o'' e' => by
    simp only [h1'] at e'
    split at e'
    · rename_i e2; cases e'; subst e2; exact hb
    · rename_i e2; simp only [Frag.of, hk k' e2]; exact c k' _ (g k' _ e')
  have d12 : h1'.disj h2 := (hd' h2b f.symm).symm
  refine ⟨⟨hs.os.trans s.os, hs.tape.trans s.tape, hs.output.trans s.output⟩, z, h1'.un h2, ?_, hkeep (hz hzd) bb, Frag.un_le h1le (hkeep h2b (i.trans c)), h1', h2, z1, e, d12, Frag.le_un_left _ _, Frag.le_un_right d12, ?_, k⟩
  · exact (Frag.un_disj (hd' (hz hzd) hzd).symm (a.mono (Frag.le.refl _) i).symm).symm
  · exact hA' h1' (by simp [h1']) (fun k' hk' => by simp [h1', hk'])

theorem Sep.setCell {κ w : World} {L L1 : List Assn} {b i : Nat} {T : TypeId} {cs : List Value} (v : Value) (h : Sep κ w L) (hp : Pick (Blk b T cs) L L1) :
    Sep κ (w.setCell ⟨b, i, none⟩ v) (Blk b T (cs.set i v) :: L1) := by
  have hb := h.blk hp
  refine h.change (b := b) (o := .cells cs.toArray T (0, 0)) (o' := .cells (cs.set i v).toArray T (0, 0)) hp ?_ ⟨rfl, rfl, rfl⟩ ?_ ?_
  · intro z h1 hA
    exact ⟨hA, fun h2 hb' _ => hb'⟩
  · simp [World.setCell, Array.getElem?_modify, hb]
  · intro k hk
    simp only [World.setCell, Array.getElem?_modify]
    rw [if_neg (by simpa using fun e => hk e.symm)]

end Go.Wk
