/- append, make, copy, stores into slices of our own; conversions; small builtins. -/
import Derived.Test.YtilcnglcflohoaaAppend
namespace Go.Wk

def BlkF (b : Nat) (T : TypeId) (cs : List Value) (fz : Nat × Nat) : Assn := fun _ h => h b = some (.cells cs.toArray T fz)

section
variable {P : Program} {n : Nat} {κ : World} {al : List (Nat × Value)} {L L1 : List Assn} {o : Oper} {v : Value} {α : Type} {T : Rep α} {a : Option Addr} {m c : Nat} {l l' : List α} {e : TypeId}

/-- Facts on what is immutable, taken in. -/
theorem Holds.add_ro {z h : Frag} {R : Frag → Prop} (hR : R z) (H : Holds z L h) : Holds z (ro R :: L) h :=
  ⟨Frag.emp, h, z, Frag.le.refl _, Frag.emp_disj _, Frag.emp_le _, Frag.le.refl _, hR, H⟩

/-- A slice of our own that is not nil, opened. -/
theorem Sep.open_buf {w : World} (hs : Sep κ w (Buf T e a m c l :: L)) : (a = none ∧ m = 0 ∧ c = 0 ∧ l = []) ∨
    ∃ (b : Nat) (pre cs rest : List Value) (fz : Nat × Nat), a = some ⟨b, pre.length, none⟩ ∧ (∀ i, pre.length ≤ i → i < (pre ++ (cs ++ rest)).length → ¬ (fz.1 ≤ i ∧ i < fz.2)) ∧ (cs ++ rest).length = c * T.sz ∧ cs.length = m * T.sz ∧
      Sep κ w (BlkF b e (pre ++ (cs ++ rest)) fz :: ro (fun z => T.rows z cs l) :: L) := by
  obtain ⟨s, z, h, d1, d2, d3, h1, h2, z1, g1, g2, g3, g4, ⟨k1, k2, k3, k4⟩, H⟩ := hs
  rcases k4 with ⟨k4, k5, k6⟩ | ⟨b, pre, cs, rest, fz, rfl, hb, hf, hr, hl⟩
  · exact .inl ⟨k4, k5, k6, List.eq_nil_of_length_eq_zero (by omega)⟩
  · refine .inr ⟨b, pre, cs, rest, fz, rfl, hf, hl, by rw [hr.1, k1], s, z, h, d1, d2, d3, h1, h2, z1, g1, g2, g3, g4, hb, ?_⟩
    exact Holds.add_ro (hr.mono g1) H

theorem Buf.closeO {b : Nat} {pre cs rest : List Value} {fz : Nat × Nat} (hl : l.length = m) (hc : m ≤ c) (h63 : c ≤ 9223372036854775807) (hf : ∀ i, pre.length ≤ i → i < (pre ++ (cs ++ rest)).length → ¬ (fz.1 ≤ i ∧ i < fz.2)) (hlen : (cs ++ rest).length = c * T.sz) :
    Ent (BlkF b e (pre ++ (cs ++ rest)) fz :: ro (fun z => T.rows z cs l) :: L) (Buf T e (some ⟨b, pre.length, none⟩) m c l :: L) := by
  rintro z h ⟨h1, h2, z1, g1, g2, g3, g4, hb, h3, h4, z2, f1, f2, f3, f4, hr, H⟩
  exact ⟨h1, h4, z, Frag.le.refl _, g2.mono (Frag.le.refl _) f4, g3, f4.trans g4, ⟨hl, hc, h63, .inr ⟨b, pre, cs, rest, fz, rfl, hb, hf, hr.mono f1, hlen⟩⟩, H⟩
theorem Buf.close {b : Nat} {cs rest : List Value} {fz : Nat × Nat} (hl : l.length = m) (hc : m ≤ c) (h63 : c ≤ 9223372036854775807) (hf : ∀ i, i < (cs ++ rest).length → ¬ (fz.1 ≤ i ∧ i < fz.2)) (hlen : (cs ++ rest).length = c * T.sz) :
    Ent (BlkF b e (cs ++ rest) fz :: ro (fun z => T.rows z cs l) :: L) (Buf T e (some ⟨b, 0, none⟩) m c l :: L) := Buf.closeO (pre := []) hl hc h63 (fun i _ hi => hf i hi) hlen

theorem Sep.changeF {w w' : World} {b E : Nat} {cs cs' : List Value} {fz : Nat × Nat} (hs : Sep κ w (BlkF b E cs fz :: L)) (hsys : Sys w w') (hb : w'.heap[b]? = some (.cells cs'.toArray E fz)) (hk : ∀ k, k ≠ b → w'.heap[k]? = w.heap[k]?) :
    Sep κ w' (BlkF b E cs' fz :: L) :=
  hs.change (b := b) (o := .cells cs.toArray E fz) (o' := .cells cs'.toArray E fz) Pick.here (fun _ _ hA => ⟨hA, fun _ hb' _ => hb'⟩) hsys hb hk
theorem Sep.blkF {w : World} {b E : Nat} {cs : List Value} {fz : Nat × Nat} (hs : Sep κ w (BlkF b E cs fz :: L)) : w.heap[b]? = some (.cells cs.toArray E fz) := by
  obtain ⟨_, z, x, a, bb, c, h1, _, _, _, _, g, _, i, _⟩ := hs
  exact c b _ (g b _ i)

theorem size_zeroCells' (z : Array Value) (k : Nat) : (Builtin.zeroCells z k).size = k * z.size := by simp [Builtin.zeroCells]

/-- append to a slice of our own. -/
theorem sep_append {T1 T2 ty bytes : Nat} {xv : Value} {w : World} (hT : ElemTy P T1 e T.sz bytes) (hT2 : NoInt P T2)
    (hp : Pick (Buf T e a m c l) L L1) (hsrc : Src P L T xv l') (h47 : (m + l'.length) * bytes ≤ 140737488355328) (h63 : m + l'.length ≤ 9223372036854775807) (hs : Sep κ w L) :
    ∃ a' c' w', (Builtin.append_ #[T1, T2] ty #[.slice a m c, xv]).run P w = .ok (.slice a' (m + l'.length) c') w' ∧ Sep κ w' (Buf T e a' (m + l'.length) c' (l ++ l') :: L1) := by
  obtain ⟨s, z, h, d1, d2, d3, H⟩ := hs
  obtain ⟨cs2, hrows2, hone, hread⟩ := hsrc z h H
  obtain ⟨hfirst, hlen⟩ := hread w d2 d3
  obtain ⟨hfirst', _⟩ := hread w.drew d2 d3
  have hs : Sep κ w (Buf T e a m c l :: L1) := ⟨s, z, h, d1, d2, d3, hp z h H⟩
  have hs2 : Sep κ w (Buf T e a m c l :: ro (fun z => T.rows z cs2 l') :: L1) := by
    obtain ⟨h1, h2, z1, g1, g2, g3, g4, hb, H2⟩ := hp z h H
    exact ⟨s, z, h, d1, d2, d3, h1, h2, z1, g1, g2, g3, g4, hb, Holds.add_ro hrows2 H2⟩
  obtain ⟨hlm, hmc, hc63⟩ := hs.buf Pick.here
  have hl2 : cs2.length = l'.length * T.sz := hrows2.1
  have hf1 := hfirst l'.length (Nat.le_refl _)
  have hf2 := hfirst' l'.length (Nat.le_refl _)
  rw [← hl2, List.take_length] at hf1 hf2
  -- the way on which it grows
  have more : c < m + l'.length → ∀ cs : List Value, (Builtin.firstCells T.sz m (.slice a m c)).run P w.drew = .ok cs.toArray w.drew → Sep κ w (ro (fun z => T.rows z cs l) :: ro (fun z => T.rows z cs2 l') :: L1) →
      ∃ a' c' w', (Builtin.append_ #[T1, T2] ty #[.slice a m c, xv]).run P w = .ok (.slice a' (m + l'.length) c') w' ∧ Sep κ w' (Buf T e a' (m + l'.length) c' (l ++ l') :: L1) := by
    intro hlt cs hcs hsep
    obtain ⟨zs, hzs, hr⟩ := run_append_more (P := P) (ty := ty) hT hT2 hlen hf2 hcs hlt h47 h63
    have hge := grownCap_ge w (m + l'.length) c e
    have hle := grownCap_le_maxLen w (m + l'.length) c e (by unfold maxLen; omega)
    generalize hC : grownCap w (m + l'.length) c e = C at *
    generalize hR : (Builtin.zeroCells zs (C - (m + l'.length))).toList = rest
    have hrl : rest.length = (C - (m + l'.length)) * T.sz := by rw [← hR]; simp [size_zeroCells', hzs]
    refine ⟨_, _, _, hr, ?_⟩
    have hs3 : Sep κ w.drew (ro (fun z => T.rows z cs l) :: ro (fun z => T.rows z cs2 l') :: L1) := hsep.drew _
    have hs4 := hs3.new (A := BlkF w.heap.size e ((cs ++ cs2) ++ rest) (0, 0)) (o := .cells ((cs ++ cs2) ++ rest).toArray e (0, 0)) (fun _ => by show Frag.one w.heap.size _ w.heap.size = some _; simp [Frag.one])
    have hcells : (cs.toArray ++ cs2.toArray ++ Builtin.zeroCells zs (C - (m + l'.length))) = ((cs ++ cs2) ++ rest).toArray := by
      apply Array.ext'; simp [← hR]
    rw [hcells]
    refine hs4.ent ?_
    refine Ent.trans (Ent.frame _ (?_ : Ent _ (ro (fun z => T.rows z (cs ++ cs2) (l ++ l')) :: L1))) (Buf.close (by simp [hlm]) hge (by simpa [maxLen] using hle) (fun i _ => by omega) ?_)
    · rintro z h ⟨h1, h2, z1, g1, g2, g3, g4, q, h3, h4, z2, g1', g2', g3', g4', q', H'⟩
      exact Holds.add_ro (Rep.rows.append (q.mono g1) (q'.mono g1')) (Holds.mono (Frag.le.refl _) (g4'.trans g4) H')
    · have hcl : cs.length = l.length * T.sz := by
        obtain ⟨z', _, hq⟩ := hsep.get_ro (R := fun z => T.rows z cs l) (List.mem_cons_self ..)
        exact hq.1
      simp only [List.length_append, hcl, hl2, hrl, hlm]
      rw [← Nat.add_mul, ← Nat.add_mul]; congr 1; omega
  rcases hs2.open_buf with ⟨rfl, rfl, rfl, rfl⟩ | ⟨b, pre, cs, rest, fz, rfl, hfz, hl, hcsl, hsF⟩
  · rcases Nat.eq_zero_or_pos l'.length with h0 | h0
    · have hl' : l' = [] := List.eq_nil_of_length_eq_zero h0
      subst hl'
      exact ⟨none, 0, w, run_append_room (P := P) (e := e) (T1 := T1) (T2 := T2) (ty := ty) (m := 0) (c := 0) (b := none) (w' := w) hT hT2 hlen hf1 (by simp) rfl, hs⟩
    · refine more (by omega) [] (by simp [Builtin.firstCells]) ?_
      refine hs2.ent (Ent.trans (Ent.drop _ _) ?_)
      exact fun z h H => Holds.add_ro (Rep.rows.nil T z) H
  · by_cases hroom : m + l'.length ≤ c
    · have hml : (m + l'.length) * T.sz ≤ c * T.sz := Nat.mul_le_mul_right _ hroom
      rw [Nat.add_mul, ← hl2, ← hcsl, ← hl] at hml
      simp only [List.length_append] at hml
      obtain ⟨w', hst, hsys, hb', hk'⟩ := run_storeCells_row (P := P) cs2 (pre ++ cs).length (pre ++ (cs ++ rest)) w hsF.blkF (fun k h1 h2 => hfz k (by simp at h1; omega) (by simp at h2 ⊢; omega)) (by simp; omega) hone (pre.length + m * T.sz) 0 (by simp; omega)
      rw [← List.append_assoc, setAt_append cs2 (pre ++ cs) rest (by omega)] at hb'
      have hs3 := hsF.changeF hsys hb' hk'
      refine ⟨some ⟨b, pre.length, none⟩, c, w', ?_, ?_⟩
      · refine run_append_room (P := P) (ty := ty) hT hT2 hlen hf1 hroom ?_
        simp only [addr_add]; exact hst
      · refine hs3.ent ?_
        rw [show pre ++ cs ++ cs2 ++ rest.drop cs2.length = pre ++ ((cs ++ cs2) ++ rest.drop cs2.length) from by simp]
        refine Ent.trans (Ent.frame _ (?_ : Ent _ (ro (fun z => T.rows z (cs ++ cs2) (l ++ l')) :: L1))) (Buf.closeO (by simp [hlm]) hroom hc63 (fun i hp hi => hfz i hp ?_) ?_)
        · rintro z h ⟨h1, h2, z1, g1, g2, g3, g4, q, h3, h4, z2, g1', g2', g3', g4', q', H'⟩
          exact Holds.add_ro (Rep.rows.append (q.mono g1) (q'.mono g1')) (Holds.mono (Frag.le.refl _) (g4'.trans g4) H')
        · simp only [List.length_append, List.length_drop] at hi ⊢; omega
        · rw [← hl]; simp only [List.length_append, List.length_drop]; omega
    · refine more (by omega) cs ?_ ?_
      · have hh : (w.drew.heap[b]?) = some (.cells (pre ++ (cs ++ rest)).toArray e fz) := hsF.blkF
        refine run_firstCells_some w.drew T.sz m _ m c cs hcsl fun j u hj => ?_
        rw [addr_add]
        have hj' : j < cs.length := (List.getElem?_eq_some_iff.1 hj).1
        simp [World.cell?, hh, List.getElem?_append_right, List.getElem?_append_left hj', hj]
      · exact hsF.ent (Ent.drop _ _)

theorem E.append {T1 T2 bytes : Nat} {xs : Array Operand} {ts : Array TypeId} {sx xx : Operand} {xv : Value} (ho : o.op = .call ⟨.builtin .append, xs, ts⟩) (hxs : xs = #[sx, xx]) (hts : ts = #[T1, T2]) (hT : ElemTy P T1 e T.sz bytes) (hT2 : NoInt P T2)
    (hx : ev al sx = some (.slice a m c)) (hy : ev al xx = some xv) (hp : Pick (Buf T e a m c l) L L1) (hsrc : Src P L T xv l') (h47 : (m + l'.length) * bytes ≤ 140737488355328) (h63 : m + l'.length ≤ 9223372036854775807) :
    OpE P n κ al L o fun v M => ∃ a' c', v = .slice a' (m + l'.length) c' ∧ M = Buf T e a' (m + l'.length) c' (l ++ l') :: L1 := OpE.of_run fun a' w he hs => by
  subst hxs; subst hts
  obtain ⟨a2, c2, w', hr, hs'⟩ := sep_append (ty := o.type) hT hT2 hp hsrc h47 h63 hs
  refine ⟨_, w', _, .inl ?_, ⟨a2, c2, rfl, rfl⟩, hs'⟩
  simp [execOp, ho, resolve, invoke, builtin, he.ev hx, he.ev hy, hr]
end
end Go.Wk
