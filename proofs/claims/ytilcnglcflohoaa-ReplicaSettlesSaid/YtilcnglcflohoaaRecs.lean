/- Fields of elements of slices of our own; calls by a function value; reading under a family. -/
import Derived.Test.YtilcnglcflohoaaZeros
namespace Go.Wk
section
variable {P : Program} {n : Nat} {κ : World} {al : List (Nat × Value)} {L L1 : List Assn} {o : Oper} {v : Value} {α : Type} {T : Rep α} {a : Option Addr} {m c e : Nat} {l : List α}

theorem V.openEx {ι : Type} {A : ι → List Assn} (hp : Pick (Ex A) L L1) (h : ∀ i, OpV P n κ al (A i ++ L1) o v) : OpV P n κ al L o v := fun a w he hs => by
  obtain ⟨i, hi⟩ := (hs.ent hp).openEx
  exact h i a w he hi

section
variable {sz : Nat} {g : α → List Value} {ok : α → Prop} {hl0 : ∀ x, ok x → (g x).length = sz} {h10 : ∀ x, ∀ u ∈ g x, u.oneCell' = true}
theorem V.fieldBuf {s f off j : Nat} {x : Operand} (ho : o.op = .fieldAddr s x f) (hx : ev al x = some (eptr a (j * T.sz))) (hf : FieldOff P s f off) (hp : Pick (Buf T e a m c l) L L1) (hj : j < l.length) : OpV P n κ al L o (eptr a (j * T.sz + off)) := fun a' w he hs => by
  have h1 := hs.buf hp
  have h2 := hs.bufN hp
  cases a with
  | none => have := h2 rfl; omega
  | some ad =>
    obtain ⟨fs, fd, ti, e1, e2, e3, e4, rfl⟩ := hf
    have hx' := he.ev hx
    simp only [eptr, Option.map_some] at hx'
    have hadd : (ad.add (j * T.sz)).add fd.offset = ad.add (j * T.sz + fd.offset) := by
      obtain ⟨_, _, _, _, _, h4⟩ : ∃ z h1 h2 : Frag, True ∧ True ∧ ((some ad = none ∧ m = 0 ∧ c = 0) ∨ ∃ (b : Nat) (pre : List Value), some ad = some ⟨b, pre.length, none⟩) := by
        obtain ⟨_, z, x, _, _, _, d⟩ := hs
        obtain ⟨h1', h2', _, _, _, _, _, hA, _⟩ := hp z x d
        exact ⟨z, h1', h2', trivial, trivial, hA.2.2.2.imp id fun ⟨b, pre, _, _, _, e, _⟩ => ⟨b, pre, e⟩⟩
      rcases h4 with ⟨h, _⟩ | ⟨b, pre, h⟩
      · cases h
      · cases h
        rw [addr_add, addr_add, addr_add, Nat.add_assoc]
    simp [execOp, ho, hx', Instr.fieldAt, run_underlying e1, e2, Instr.sureAddr, fieldPlace, run_sizeOf_info e3, e4, hadd, eptr]
theorem V.loadBufDtF {T' j f : Nat} {y : α} {x : Operand} {u : Value} (ho : o.op = .load T' x) (hT : One P T') (hx : ev al x = some (eptr a (j * (Rep.dt sz g ok hl0 h10).sz + f))) (hp : Pick (Buf (Rep.dt sz g ok hl0 h10) e a m c l) L L1) (hy : l[j]? = some y) (hu : (g y)[f]? = some u) : OpV P n κ al L o u := fun a' w he hs => by
  have hj : j < l.length := (List.getElem?_eq_some_iff.1 hy).1
  have hs2 := hs.ent hp
  obtain ⟨g1, g2, g3⟩ := hs2.buf Pick.here
  rcases hs2.open_buf with ⟨_, h4, _⟩ | ⟨b, pre, cs, rest, fz, rfl, hfz, hl, hcs, hsF⟩
  · omega
  · obtain ⟨z, hz, hrows⟩ := hsF.get_ro (R := fun z => (Rep.dt sz g ok hl0 h10).rows z cs l) (.tail _ (.head _))
    have hrep := hrows.2 j y hy
    have hus' : (cs.drop (j * sz)).take sz = g y := hrep.1
    have hb := hsF.blkF
    rw [← hus', List.getElem?_take] at hu
    split at hu
    · rw [List.getElem?_drop] at hu
      have hlt := (List.getElem?_eq_some_iff.1 hu).1
      have hcell : w.cell? ⟨b, pre.length + (j * sz + f), none⟩ = some u := by
        simp only [World.cell?, hb]
        simp [List.getElem?_append_right, List.getElem?_append_left hlt, hu]
      have hx' := he.ev hx
      simp [eptr, addr_add, Rep.dt] at hx'
      simp [execOp, ho, hx', Instr.loadAt, Instr.sureAddr, loadVar, hT.agg w, hcell]
    · cases hu
end

/-- A call by a function value. -/
theorem E.callV {f : FuncId} {xs : Array Operand} {ts : Array TypeId} {vs : List Value} {K : Post} {x : Operand} (ho : o.op = .call ⟨.value x, xs, ts⟩) (hfx : ev al x = some (.func (.func f) #[] #[])) (hf : IsGo P f) (hx : evs al xs.toList = some vs) (hc : Ctr P f vs.toArray κ L K) : OpE P n κ al L o K := fun a w he hs => by
  have hm : xs.map a.eval = vs.toArray := by
    rw [← he.evs hx]; apply Array.ext'; simp
  have hr : (execOp a.eval o).run P w = .ok (.enter f vs.toArray) w := by
    simp [execOp, ho, resolve, he.ev hfx, Deferred.ofValue, invoke, hm, run_callFunc hf]
  unfold Oper.wp
  rw [hr]
  refine Calls.mono (hc w hs) ?_
  rintro e w' ⟨v, rfl, hK⟩
  exact ⟨v, rfl, hK⟩
/-- An element of an array value. -/
theorem V.indexA {T' E0 len j : Nat} {kk : IntKind} {i : Int} {x y : Operand} {cs : List Value} {u : Value} (ho : o.op = .index T' x y) (hT : ArrTy P T' len E0 1) (hE : One P E0) (hl : cs.length = len) (hx : ev al x = some (.agg cs.toArray)) (hy : ev al y = some (.int kk i)) (hj : i = (j : Int)) (hu : cs[j]? = some u) :
    OpV P n κ al L o u := V.of_run fun a' w he => by
  subst hj
  obtain ⟨ti, h1, h2, h3⟩ := hT
  have hjl : j < len := by rw [← hl]; exact (List.getElem?_eq_some_iff.1 hu).1
  have hg := hE.agg w
  have hx' := he.ev hx
  have hpt : (part E0 cs.toArray j).run P w = .ok u w := by
    unfold part
    simp [hg, hu]
  simp [execOp, ho, hx', he.ev hy, Instr.index, asIntOf, run_underlying h1, hjl, run_sizeOf_info h2, h3, hpt]

theorem Ent.ro_and {R R' : Frag → Prop} : Ent (ro (fun z => R z ∧ R' z) :: L) (ro R :: ro R' :: L) := fun z h H => by
  obtain ⟨h1, h2, z1, a, b, c, d, ⟨e, e'⟩, f⟩ := H
  exact ⟨Frag.emp, h, z1, a, Frag.emp_disj _, Frag.emp_le _, Frag.le.refl _, e, Frag.emp, h, z1, a, Frag.emp_disj _, Frag.emp_le _, Frag.le.refl _, e', Holds.mono (Frag.le.refl _) d f⟩
/-- Two facts out of one. -/
theorem SG.roEx3 {f : FuncId} {K : Post} {k : List Item} {ι : Type} {R0 : Frag → Prop} {p : ι → Prop} {R R' R'' : ι → Frag → Prop} (hp : Pick (ro R0) L L1) (hR : ∀ z, R0 z → ∃ i, p i ∧ (R i z ∧ R' i z ∧ R'' i z)) (h : ∀ i, p i → SG P f n κ K k al (ro (R i) :: ro (R' i) :: ro (R'' i) :: L1)) : SG P f n κ K k al L :=
  SG.roEx hp hR fun i hi => SG.ent (Ent.ro_and.trans (Ent.frame _ Ent.ro_and)) (h i hi)
theorem RL.roEx3 {f : FuncId} {K : Post} {k : List Item} {ops : Array Oper} {rest : List Oper} {ι : Type} {R0 : Frag → Prop} {p : ι → Prop} {R R' R'' : ι → Frag → Prop} (hp : Pick (ro R0) L L1) (hR : ∀ z, R0 z → ∃ i, p i ∧ (R i z ∧ R' i z ∧ R'' i z)) (h : ∀ i, p i → RL P f n κ K k ops rest al (ro (R i) :: ro (R' i) :: ro (R'' i) :: L1)) : RL P f n κ K k ops rest al L :=
  RL.roEx hp hR fun i hi => RL.ent (Ent.ro_and.trans (Ent.frame _ Ent.ro_and)) (h i hi)
theorem RH.roEx3 {f : FuncId} {K : Post} {k : List Item} {ops : Array Oper} {L0 : List Assn} {x fuel : Nat} {listed : Array Bool} {ι : Type} {R0 : Frag → Prop} {p : ι → Prop} {R R' R'' : ι → Frag → Prop} (hp : Pick (ro R0) L L1) (hR : ∀ z, R0 z → ∃ i, p i ∧ (R i z ∧ R' i z ∧ R'' i z)) (h : ∀ i, p i → RH P f n κ K k ops L0 x fuel listed al (ro (R i) :: ro (R' i) :: ro (R'' i) :: L1)) : RH P f n κ K k ops L0 x fuel listed al L :=
  RH.roEx hp hR fun i hi => RH.ent (Ent.ro_and.trans (Ent.frame _ Ent.ro_and)) (h i hi)
end
end Go.Wk
