/- A function that only reads may be called on whatever can be read, ours or immutable; what was there before stays. -/
import Derived.Test.YtilcnglcflohoaaOps2
namespace Go.Wk
section
variable {P : Program} {f : FuncId} {n : Nat} {κ : World} {K : Post} {L L1 : List Assn} {α : Type} {T : Rep α} {a : Option Addr} {m c : Nat} {l : List α} {e : TypeId}
/-- It holds of all memory together. -/
def Seen (R : Frag → Prop) (L : List Assn) : Prop := ∀ z h : Frag, z.disj h → Holds z L h → R (z.un h)
theorem Seen.sl (hm : Sl T a m c l ∈ L) : Seen (SlP T a m c l) L := fun z h _ H => by
  obtain ⟨_, _, z1, hz, _, _, _, hr, _⟩ := Pick.ro hm z h H
  exact hr.mono (hz.trans (Frag.le_un_left _ _))
theorem Seen.buf (hp : Pick (Buf T e a m c l) L L1) : Seen (SlP T a m c l) L := fun z h hd H => by
  obtain ⟨h1, h2, z1, g1, g2, g3, g4, ⟨k1, k2, k3, k4⟩, _⟩ := hp z h H
  refine ⟨k1, k2, k3, ?_⟩
  rcases k4 with ⟨rfl, rfl, rfl⟩ | ⟨b, pre, cs, rest, fz, rfl, hb, hf, hr, hl⟩
  · exact .inl rfl
  · refine .inr ⟨b, pre.length, cs, rfl, fun i u hu => ?_, hr.mono (g1.trans (Frag.le_un_left _ _))⟩
    have hi : i < cs.length := (List.getElem?_eq_some_iff.1 hu).1
    refine cellAt_mono (g3.trans (Frag.le_un_right hd)) ?_
    simp only [cellAt, hb]
    simp [List.getElem?_append_right, List.getElem?_append_left hi, hu]
theorem Ctr.read {ι : Type} {args : Array Value} {Rs : List (Frag → Prop)} {r : ι → Value} {N : ι → List Assn} (hR : ∀ R ∈ Rs, Seen R L)
    (h : ∀ L' : List Assn, (∀ R ∈ Rs, ro R ∈ L') → Ctr P f args κ L' (fun v M => ∃ i, v = r i ∧ M = N i ++ L'))
    (hN : ∀ i (z z' h : Frag), Holds z (N i) h → Holds z' (N i) h) : Ctr P f args κ L (fun v M => ∃ i, v = r i ∧ M = N i ++ L) := by
  rintro w ⟨s, z, x, d1, d2, d3, H⟩
  have hold : ∀ Rs' : List (Frag → Prop), (∀ R ∈ Rs', R (z.un x)) → Sep κ w (Rs'.map ro ++ [ro (fun y => (z.un x).le y)]) := by
    intro Rs' hs
    refine ⟨s, z.un x, Frag.emp, fun _ => .inr rfl, Frag.un_le d2 d3, Frag.emp_le _, ?_⟩
    induction Rs' with
    | nil => exact Holds.add_ro (Frag.le.refl _) trivial
    | cons R Rs' ih => exact Holds.add_ro (hs R (List.mem_cons_self ..)) (ih fun R' h' => hs R' (List.mem_cons_of_mem _ h'))
  refine Calls.mono (h _ (fun R hR' => List.mem_append.2 (.inl (List.mem_map_of_mem hR'))) w (hold Rs fun R hR' => hR R hR' z x d1 H)) ?_
  rintro e w' ⟨v, he, M, ⟨i, hv, hM⟩, hs⟩
  refine ⟨v, he, _, ⟨i, hv, rfl⟩, ?_⟩
  subst hM
  obtain ⟨s', z', x', e1, e2, e3, H'⟩ := hs
  obtain ⟨ha, hb, g1, g2, g3, g4, g5⟩ := Holds.split H'
  obtain ⟨ha', hb', f1, f2, f3, f4, f5⟩ := Holds.split g5
  obtain ⟨_, _, z1, k1, _, _, _, k2, _⟩ := f5
  have hle : (z.un x).le z' := k2.trans k1
  have hz : z.le z' := (Frag.le_un_left _ _).trans hle
  have hx : x.le z' := (Frag.le_un_right d1).trans hle
  refine ⟨s', z, ha.un x, ?_, hz.trans e2, Frag.un_le (g2.trans e3) (hx.trans e2), ?_⟩
  · exact (Frag.un_disj (e1.mono hz g2).symm d1.symm).symm
  · exact Holds.app (e1.mono hx g2).symm (Frag.le_un_left _ _) (Frag.le_un_right (e1.mono hx g2).symm) (hN i _ _ _ g4) H
theorem Ctr.read0 {args : Array Value} {Rs : List (Frag → Prop)} {r : Value} (hR : ∀ R ∈ Rs, Seen R L)
    (h : ∀ L' : List Assn, (∀ R ∈ Rs, ro R ∈ L') → Ctr P f args κ L' (fun v M => v = r ∧ M = L')) : Ctr P f args κ L (fun v M => v = r ∧ M = L) :=
  (Ctr.read (ι := Unit) (r := fun _ => r) (N := fun _ => []) hR (fun L' hL' => (h L' hL').mono (Ent.refl _) fun _ _ hK => ⟨(), hK.1, hK.2⟩) (fun _ _ _ _ _ => trivial)).mono (Ent.refl _) fun _ _ ⟨_, h1, h2⟩ => ⟨h1, h2⟩
/-- These cells lie k behind a. -/
def At (a : Option Addr) (k : Nat) (us : List Value) : Assn := ro fun z => ∃ b o, a = some ⟨b, o, none⟩ ∧ Row z b (o + k) us
theorem SlP.elem {z : Frag} {j : Nat} {y : α} (h : SlP T a m c l z) (hy : l[j]? = some y) : ∃ us, T.rep z us y ∧ us.length = T.sz ∧ ∃ b o, a = some ⟨b, o, none⟩ ∧ Row z b (o + j * T.sz) us := by
  obtain ⟨h1, _, _, h4⟩ := h
  have hj : j < l.length := (List.getElem?_eq_some_iff.1 hy).1
  rcases h4 with h4 | ⟨b, off, cs, rfl, hr, hrows⟩
  · omega
  · exact ⟨_, hrows.2 j y hy, T.len (hrows.2 j y hy), b, off, rfl, hr.sub (j * T.sz) T.sz⟩
theorem SG.elem {k : List Item} {al : List (Nat × Value)} {j : Nat} {y : α} (hm : Sl T a m c l ∈ L) (hy : l[j]? = some y) (h : ∀ us, us.length = T.sz → SG P f n κ K k al (Rd T us y :: At a (j * T.sz) us :: L)) : SG P f n κ K k al L := fun a' w he ⟨s, z, hh, d1, d2, d3, H⟩ => by
  obtain ⟨_, _, z1, hz1, _, _, _, hr, _⟩ := Pick.ro hm z hh H
  obtain ⟨us, g1, g2, g3⟩ := (hr.mono hz1).elem hy
  exact h us g2 a' w he ⟨s, z, hh, d1, d2, d3, Holds.add_ro g1 (Holds.add_ro g3 H)⟩
theorem V.loadAt {al : List (Nat × Value)} {o : Oper} {T' k m' : Nat} {x : Operand} {us : List Value} (ho : o.op = .load T' x) (hT : Agg P T' m') (hx : ev al x = some (eptr a k)) (hm : At a k us ∈ L) (hlen : us.length = m') : OpV P n κ al L o (.agg us.toArray) := fun a' w he hs => by
  subst hlen
  obtain ⟨z, hz, b, off, rfl, hr⟩ := hs.get_ro hm
  have hl : (loadCells ⟨b, off + k, none⟩ us.length).run P w = .ok us.toArray w := by
    refine run_loadCells_list w _ us fun i u hi => ?_
    rw [addr_add]
    exact cell_of_row hz hr hi
  have hg := hT.agg w
  obtain ⟨d, ti, e1, e2, e3, e4⟩ := hT
  have hx' := he.ev hx
  simp [eptr, addr_add] at hx'
  rw [← e4] at hl
  simp [execOp, ho, hx', Instr.loadAt, Instr.sureAddr, loadVar, hg, run_sizeOf_info e3, hl]
theorem SG.cut {k : List Item} {al : List (Nat × Value)} {lo hi : Nat} {l' : List α} (hm : Sl T a m c l ∈ L) (h1 : lo ≤ hi) (h2 : hi ≤ m) (e : (l.drop lo).take (hi - lo) = l') (h : SG P f n κ K k al (Sl T (cutA a lo T.sz c) (hi - lo) (c - lo) l' :: L)) : SG P f n κ K k al L :=
  SG.ent (by subst e; exact Sl.cut_ent hm h1 h2) h
end
end Go.Wk
