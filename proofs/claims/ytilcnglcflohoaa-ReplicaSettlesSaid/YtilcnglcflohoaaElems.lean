/- Elements of slices of our own; make, copy, literals; []byte(s). -/
import Derived.Test.YtilcnglcflohoaaNums
namespace Go.Wk

/-- The datum determines the cells. -/
def Rep.dt {α : Type} (sz : Nat) (f : α → List Value) (ok : α → Prop) (hl : ∀ x, ok x → (f x).length = sz) (h1 : ∀ x, ∀ u ∈ f x, u.oneCell' = true) : Rep α where
  sz := sz
  rep _ cs x := cs = f x ∧ ok x
  mono _ h := h
  len h := by rw [h.1]; exact hl _ h.2
  one h u hu := by rw [h.1] at hu; exact h1 _ u hu

section
variable {P : Program} {n : Nat} {κ : World} {al : List (Nat × Value)} {L L1 : List Assn} {o : Oper} {α : Type} {T : Rep α} {a : Option Addr} {m c : Nat} {l l' : List α} {e : TypeId}

theorem V.indexBuf {T' E j : Nat} {k : IntKind} {i : Int} {x y : Operand} (ho : o.op = .indexAddr T' x y) (hT : SliceTy P T' E T.sz) (hx : ev al x = some (.slice a m c)) (hy : ev al y = some (.int k i)) (hp : Pick (Buf T e a m c l) L L1) (hj : i = (j : Int)) (hlt : j < l.length) :
    OpV P n κ al L o (eptr a (j * T.sz)) := fun a' w he hs => by
  obtain ⟨h1, _, _⟩ := hs.buf hp
  obtain ⟨ti, h5, h6, h7⟩ := hT
  rcases (hs.ent hp).open_buf with ⟨_, h4, _⟩ | ⟨b, pre, cs, rest, fz, rfl, _⟩
  · omega
  · subst hj
    have h8 : j < m := by omega
    simp [execOp, ho, he.ev hx, he.ev hy, Instr.indexAt, asIntOf, run_underlying h5, h8, run_sizeOf_info h6, h7, addr_add, eptr]

theorem V.loadBufSc {val : α → Value} {ok : α → Prop} {h1 : ∀ x, (val x).oneCell' = true} {T' j : Nat} {y : α} {x : Operand} (ho : o.op = .load T' x) (hT : One P T') (hx : ev al x = some (eptr a (j * (Rep.sc val ok h1).sz)))
    (hp : Pick (Buf (Rep.sc val ok h1) e a m c l) L L1) (hy : l[j]? = some y) : OpV P n κ al L o (val y) := fun a' w he hs => by
  obtain ⟨g1, _, _⟩ := hs.buf hp
  have hj : j < l.length := (List.getElem?_eq_some_iff.1 hy).1
  rcases (hs.ent hp).open_buf with ⟨_, h4, _⟩ | ⟨b, pre, cs, rest, fz, rfl, _, _, _, hsF⟩
  · omega
  · obtain ⟨z, _, hrows⟩ := hsF.get_ro (R := fun z => (Rep.sc val ok h1).rows z cs l) (.tail _ (.head _))
    obtain ⟨rfl, _⟩ := rows_sc.1 hrows
    have hb := hsF.blkF
    have hcell : w.cell? ⟨b, pre.length + j, none⟩ = some (val y) := by
      simp only [World.cell?, hb]
      simp [List.getElem?_append_right, List.getElem?_append_left (show j < (l.map val).length by simpa using hj), hy]
    simp only [Rep.sc, Nat.mul_one] at hx
    have hx' := he.ev hx
    simp [eptr, addr_add] at hx'
    simp [execOp, ho, hx', Instr.loadAt, Instr.sureAddr, loadVar, hT.agg w, hcell]

theorem setAt_mid : ∀ (us pre mid post : List Value), mid.length = us.length → setAt (pre ++ mid ++ post) pre.length us = pre ++ us ++ post
  | [], pre, mid, post, h => by
    have : mid = [] := List.eq_nil_of_length_eq_zero (by simpa using h)
    subst this; simp [setAt]
  | u :: us, pre, [], post, h => by simp at h
  | u :: us, pre, r :: mid, post, h => by
    have ih := setAt_mid us (pre ++ [u]) mid post (by simpa using h)
    simp only [setAt]
    rw [show (pre ++ r :: mid ++ post).set pre.length u = (pre ++ [u]) ++ mid ++ post from by simp]
    rw [show pre.length + 1 = (pre ++ [u]).length from by simp, ih]
    simp

theorem Rep.rows.set {z : Frag} {cs us : List Value} {j : Nat} {y : α} (hr : T.rows z cs l) (hj : j < l.length) (hu : T.rep z us y) : T.rows z (cs.take (j * T.sz) ++ us ++ cs.drop (j * T.sz + T.sz)) (l.set j y) := by
  have h1 := hr.sub 0 j
  have h2 := hr.sub (j + 1) (l.length - (j + 1))
  simp only [Nat.zero_mul, List.drop_zero] at h1
  have e2 : (cs.drop ((j + 1) * T.sz)).take ((l.length - (j + 1)) * T.sz) = cs.drop (j * T.sz + T.sz) := by
    rw [Nat.add_mul, Nat.one_mul]
    apply List.take_of_length_le
    rw [List.length_drop, hr.1]
    have : l.length * T.sz = (j + 1) * T.sz + (l.length - (j + 1)) * T.sz := by rw [← Nat.add_mul]; congr 1; omega
    rw [Nat.add_mul, Nat.one_mul] at this
    omega
  have e3 : (l.drop (j + 1)).take (l.length - (j + 1)) = l.drop (j + 1) := List.take_of_length_le (by simp)
  rw [e2, e3] at h2
  have h3 := (h1.append (Rep.rows.single hu)).append h2
  have e4 : l.set j y = l.take j ++ [y] ++ l.drop (j + 1) := by
    rw [List.set_eq_take_append_cons_drop, if_pos hj]; simp
  rw [e4]; exact h3

theorem E.storeBuf {T' j : Nat} {y : α} {x x' : Operand} {u : Value} (us : List Value) (ho : o.op = .store T' x x') (hT : ∃ ti, P.info? T' = some ti ∧ ti.size = T.sz) (hx : ev al x = some (eptr a (j * T.sz))) (hy : ev al x' = some u) (hu : u.cells = us.toArray)
    (hp : Pick (Buf T e a m c l) L L1) (hj : j < l.length) (hrep : ∀ z h, Holds z L h → T.rep z us y) : OpE P n κ al L o fun _ M => M = Buf T e a m c (l.set j y) :: L1 := OpE.of_run fun a' w he hs => by
  obtain ⟨s, z, h, d1, d2, d3, H⟩ := hs
  have hR := hrep z h H
  have hs2 : Sep κ w (Buf T e a m c l :: ro (fun z => T.rep z us y) :: L1) := by
    obtain ⟨h1, h2, z1, g1, g2, g3, g4, hb, H2⟩ := hp z h H
    exact ⟨s, z, h, d1, d2, d3, h1, h2, z1, g1, g2, g3, g4, hb, Holds.add_ro hR H2⟩
  obtain ⟨g1, g2, g3⟩ := hs2.buf Pick.here
  rcases hs2.open_buf with ⟨_, h4, _⟩ | ⟨b, pre, cs, rest, fz, rfl, hfz, hl, hcs, hsF⟩
  · omega
  · have hus := T.len hR
    have hle : j * T.sz + T.sz ≤ cs.length := by
      rw [hcs, ← g1]
      have : (j + 1) * T.sz ≤ l.length * T.sz := Nat.mul_le_mul_right _ hj
      rwa [Nat.add_mul, Nat.one_mul] at this
    obtain ⟨w', hst, hsys, hb', hk'⟩ := run_storeCells_row (P := P) us (pre.length + j * T.sz) (pre ++ (cs ++ rest)) w hsF.blkF (fun k h1 h2 => hfz k (by omega) (by simp; omega)) (by simp; omega) (T.one hR) (pre.length + j * T.sz) 0 (by omega)
    have hsplit : cs ++ rest = cs.take (j * T.sz) ++ (cs.drop (j * T.sz)).take T.sz ++ (cs.drop (j * T.sz + T.sz) ++ rest) := by
      rw [← List.append_assoc, ← List.drop_drop, List.append_assoc (cs.take _), List.take_append_drop, List.take_append_drop]
    have hset : setAt (pre ++ (cs ++ rest)) (pre.length + j * T.sz) us = pre ++ ((cs.take (j * T.sz) ++ us ++ cs.drop (j * T.sz + T.sz)) ++ rest) := by
      rw [hsplit]
      have := setAt_mid us (pre ++ cs.take (j * T.sz)) ((cs.drop (j * T.sz)).take T.sz) (cs.drop (j * T.sz + T.sz) ++ rest) (by simp; omega)
      rw [List.length_append, List.length_take, Nat.min_eq_left (by omega)] at this
      rw [show pre ++ (cs.take (j * T.sz) ++ (cs.drop (j * T.sz)).take T.sz ++ (cs.drop (j * T.sz + T.sz) ++ rest)) = pre ++ cs.take (j * T.sz) ++ (cs.drop (j * T.sz)).take T.sz ++ (cs.drop (j * T.sz + T.sz) ++ rest) from by simp only [List.append_assoc], this]; simp
    rw [hset] at hb'
    have hs3 := hsF.changeF hsys hb' hk'
    obtain ⟨ti, e1, e2⟩ := hT
    have hx' := he.ev hx
    simp [eptr, addr_add] at hx'
    refine ⟨undef, w', _, .inr ⟨?_, rfl⟩, rfl, ?_⟩
    · simp [execOp, ho, hx', he.ev hy, Instr.storeAt, Instr.sureAddr, storeVar, run_sizeOf_info e1, hu, e2, hus, hst]
    · refine hs3.ent (Ent.trans (Ent.frame _ (?_ : Ent _ (ro (fun z => T.rows z (cs.take (j * T.sz) ++ us ++ cs.drop (j * T.sz + T.sz)) (l.set j y)) :: L1))) (Buf.closeO (by simp [g1]) g2 g3 (fun i hp hi => hfz i hp ?_) ?_))
      · rintro z h ⟨h1, h2, z1, f1, f2, f3, f4, q, h3, h4, z2, f1', f2', f3', f4', q', H'⟩
        exact Holds.add_ro ((q.mono f1).set hj (T.mono f1' q')) (Holds.mono (Frag.le.refl _) (f4'.trans f4) H')
      · simp only [List.length_append, List.length_take, List.length_drop] at hi ⊢; omega
      · rw [← hl]; simp only [List.length_append, List.length_take, List.length_drop]; omega

/-- A whole element of a slice of our own. -/
theorem E.loadBufElem {T' j : Nat} {y : α} {x : Operand} (ho : o.op = .load T' x) (hT : Agg P T' T.sz) (hx : ev al x = some (eptr a (j * T.sz))) (hp : Pick (Buf T e a m c l) L L1) (hy : l[j]? = some y) :
    OpE P n κ al L o fun v M => ∃ us, v = .agg us.toArray ∧ M = Rd T us y :: Buf T e a m c l :: L1 := OpE.of_run fun a' w he hs => by
  have hj : j < l.length := (List.getElem?_eq_some_iff.1 hy).1
  have hs2 := hs.ent hp
  obtain ⟨g1, g2, g3⟩ := hs2.buf Pick.here
  rcases hs2.open_buf with ⟨_, h4, _⟩ | ⟨b, pre, cs, rest, fz, rfl, hfz, hl, hcs, hsF⟩
  · omega
  · obtain ⟨z, hz, hrows⟩ := hsF.get_ro (R := fun z => T.rows z cs l) (.tail _ (.head _))
    have hrep := hrows.2 j y hy
    have hus := T.len hrep
    have hb := hsF.blkF
    generalize hus' : (cs.drop (j * T.sz)).take T.sz = us at *
    have hcells : (loadCells ⟨b, pre.length + j * T.sz, none⟩ us.length).run P w = .ok us.toArray w := by
      refine run_loadCells_list w _ us fun i u hi => ?_
      rw [addr_add]
      rw [← hus', List.getElem?_take] at hi
      split at hi
      · rw [List.getElem?_drop] at hi
        have hlt := (List.getElem?_eq_some_iff.1 hi).1
        simp only [World.cell?, hb]
        simp [Nat.add_assoc, List.getElem?_append_right, List.getElem?_append_left hlt, hi]
      · cases hi
    have hg := hT.agg w
    obtain ⟨d, ti, e1, e2, e3, e4⟩ := hT
    have hx' := he.ev hx
    simp [eptr, addr_add] at hx'
    rw [hus, ← e4] at hcells
    refine ⟨_, w, _, .inl ?_, ⟨us, rfl, rfl⟩, ?_⟩
    · rw [← e4] at hx'
      simp [execOp, ho, hx', Instr.loadAt, Instr.sureAddr, loadVar, hg, run_sizeOf_info e3, hcells]
    · refine hsF.ent ?_
      refine Ent.trans ?_ (Ent.frame _ (Buf.closeO (T := T) (l := l) g1 g2 g3 hfz hl))
      rintro z h ⟨h1, h2, z1, f1, f2, f3, f4, hblk, h3, h4, z2, f1', f2', f3', f4', q', H'⟩
      refine ⟨Frag.emp, h, z2, f1'.trans (Frag.le.refl _), Frag.emp_disj _, Frag.emp_le _, Frag.le.refl _, ?_, h1, h2, z1, f1, f2, f3, f4, hblk, h3, h4, z2, f1', f2', f3', f4', q', H'⟩
      have := q'.2 j y hy
      rwa [hus'] at this

/-- make([]T, m). -/
theorem E.make {T' bytes : Nat} {x y : Operand} {i : Int} {z0 : Value} {x0 : α} (ho : o.op = .makeSlice T' x y) (hT : ElemTy P T' e T.sz bytes) (hz : Zero P e (List.replicate T.sz z0)) (hx : ev al x = some (.int .i64 i)) (hy : ev al y = some (.int .i64 i)) (hi : i = (m : Int)) (hm : m * bytes ≤ 140737488355328) (h63 : m ≤ 9223372036854775807)
    (hrep : ∀ z, T.rep z (List.replicate T.sz z0) x0) :
    OpE P n κ al L o fun v M => ∃ b, v = .slice (some ⟨b, 0, none⟩) m m ∧ M = Buf T e (some ⟨b, 0, none⟩) m m (List.replicate m x0) :: L := OpE.of_run fun a' w he hs => by
  subst hi
  obtain ⟨ti, z, h1, h2, h3, h4, h5, h6⟩ := hT
  obtain ⟨ti', z', q1, q2, q3⟩ := hz
  rw [h2] at q1; cases q1
  rw [h5] at q2; cases q2
  have hlarge : ((ti.bytes : Int) * (m : Int)) ≤ 281474976710656 := by
    rw [h4, Int.mul_comm, ← Int.natCast_mul]; omega
  have hr := run_make (P := P) w T' e ti z h1 h2 h5 .i64 .i64 m m (by omega) (Int.le_refl _) hlarge (by omega)
  simp only [Int.toNat_natCast, h3] at hr
  have hcells : madeCells z.cells (m * T.sz) = (List.replicate (m * T.sz) z0).toArray := by
    rw [q3]
    unfold madeCells
    apply Array.ext
    · simp
    · intro i g1 g2
      simp at g1
      have hsz : 0 < T.sz := Nat.pos_of_ne_zero fun h => by rw [h] at g1; simp at g1
      have : i % T.sz < T.sz := Nat.mod_lt _ hsz
      simp [getElem!_pos, this]
  rw [hcells] at hr
  have hrun : (execOp a'.eval o).run P w = .ok (.value (.slice (some ⟨w.heap.size, 0, none⟩) m m)) (w.alloc (.cells (List.replicate (m * T.sz) z0).toArray e)) := by
    simp only [execOp, ho, he.ev hx, he.ev hy]
    simp only [Sem.run_bind, hr]
    rfl
  have hs' := hs.alloc (cs := List.replicate (m * T.sz) z0) (T := e)
  refine ⟨_, _, _, .inl hrun, ⟨w.heap.size, rfl, rfl⟩, hs'.ent (Buf.of_blk (by simp) (by simp) h63 fun zz => ?_)⟩
  refine ⟨by simp, fun i x hx => ?_⟩
  have hi := (List.getElem?_eq_some_iff.1 hx).1
  simp at hi
  have hxx : x = x0 := by simp [hi] at hx; exact hx.symm
  subst hxx
  have : ((List.replicate (m * T.sz) z0).drop (i * T.sz)).take T.sz = List.replicate T.sz z0 := by
    rw [List.drop_replicate, List.take_replicate, ← Nat.sub_mul]
    congr 1
    have : 1 * T.sz ≤ (m - i) * T.sz := Nat.mul_le_mul_right _ (by omega)
    omega
  rw [this]; exact hrep zz
end
end Go.Wk
