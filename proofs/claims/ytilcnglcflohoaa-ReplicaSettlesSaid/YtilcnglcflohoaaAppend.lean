/- Slices cut, grown, copied, made; strings. -/
import Derived.Test.YtilcnglcflohoaaData
namespace Go.Wk

section
variable {P : Program} {n : Nat} {κ : World} {al : List (Nat × Value)} {L L1 : List Assn} {o : Oper} {v : Value} {α : Type} {T : Rep α} {a : Option Addr} {m c : Nat} {l l' : List α} {e : TypeId}

/- 1. CUTTING -/
def BoundOf (al : List (Nat × Value)) (x : Option Operand) (d j : Nat) : Prop := match x with
  | none => j = d
  | some x => ∃ k i, ev al x = some (.int k i) ∧ i = (j : Int)

theorem run_sliceBound {k : IntKind} {j y : Nat} (h : j ≤ y) (code : BoundsCode) (w : World) : (Instr.sliceBound (.int k (j : Int)) y code).run P w = .ok j w := by
  have h' : (j : Int) ≤ (y : Int) := by omega
  simp [Instr.sliceBound, asIntOf, h]

theorem run_sliceBounds {a' : Act} (he : Env n al a') {b : Bool} {len cap lo hi : Nat} {x y : Option Operand} (hlo : BoundOf al x 0 lo) (hhi : BoundOf al y len hi) (h1 : lo ≤ hi) (h2 : hi ≤ cap) (w : World) :
    (Instr.sliceBounds b len cap (x.map a'.eval) (y.map a'.eval) none).run P w = .ok (lo, hi, cap) w := by
  cases x with
  | none =>
    cases y with
    | none => simp only [BoundOf] at hlo hhi; subst hlo; subst hhi; simp [Instr.sliceBounds]
    | some y =>
      obtain ⟨k, i, e1, rfl⟩ := hhi
      simp only [BoundOf] at hlo; subst hlo
      cases b <;> simp [Instr.sliceBounds, he.ev e1, run_sliceBound h2]
  | some x =>
    obtain ⟨k, i, e1, rfl⟩ := hlo
    cases y with
    | none => simp only [BoundOf] at hhi; subst hhi; simp [Instr.sliceBounds, he.ev e1, run_sliceBound h1]
    | some y =>
      obtain ⟨k', i', e2, rfl⟩ := hhi
      cases b <;> simp [Instr.sliceBounds, he.ev e1, he.ev e2, run_sliceBound h1, run_sliceBound h2]

def cutA (a : Option Addr) (lo sz c : Nat) : Option Addr := if c = lo then a else a.map (·.add (lo * sz))

theorem V.slice {T' E lo hi : Nat} {x : Operand} {y z : Option Operand} (ho : o.op = .slice T' x y z none) (hT : SliceTy P T' E T.sz) (hx : ev al x = some (.slice a m c)) (hlo : BoundOf al y 0 lo) (hhi : BoundOf al z m hi) (h1 : lo ≤ hi) (h2 : hi ≤ c) :
    OpV P n κ al L o (.slice (cutA a lo T.sz c) (hi - lo) (c - lo)) := V.of_run fun a' w he => by
  obtain ⟨ti, h5, h6, h7⟩ := hT
  simp [execOp, ho, Instr.sliceAt, Instr.slice, he.ev hx, run_underlying h5, run_sliceBounds he hlo hhi h1 h2, run_sizeOf_info h6, h7, cutA]

theorem SlP.cut {z : Frag} {lo hi : Nat} (h : SlP T a m c l z) (h1 : lo ≤ hi) (h2 : hi ≤ m) : SlP T (cutA a lo T.sz c) (hi - lo) (c - lo) ((l.drop lo).take (hi - lo)) z := by
  obtain ⟨g1, g2, g3, g4⟩ := h
  refine ⟨by simp; omega, by omega, by omega, ?_⟩
  by_cases h0 : hi - lo = 0
  · exact .inl h0
  rcases g4 with g4 | ⟨b, off, cs, rfl, hr, hrows⟩
  · omega
  · refine .inr ⟨b, off + lo * T.sz, (cs.drop (lo * T.sz)).take ((hi - lo) * T.sz), ?_, hr.sub _ _, hrows.sub _ _⟩
    simp [cutA, addr_add]; omega

theorem E.slice {T' E lo hi : Nat} {x : Operand} {y z : Option Operand} (ho : o.op = .slice T' x y z none) (hT : SliceTy P T' E T.sz) (hx : ev al x = some (.slice a m c)) (hm : Sl T a m c l ∈ L) (hlo : BoundOf al y 0 lo) (hhi : BoundOf al z m hi) (h1 : lo ≤ hi) (h2 : hi ≤ m) :
    OpE P n κ al L o fun v M => ∃ a', v = .slice a' (hi - lo) (c - lo) ∧ M = Sl T a' (hi - lo) (c - lo) ((l.drop lo).take (hi - lo)) :: L := OpE.of_run fun a' w he hs => by
  obtain ⟨_, _, _, g2, _⟩ := hs.sl hm
  refine ⟨_, w, _, .inl (V.slice (κ := κ) (L := L) ho hT hx hlo hhi h1 (by omega) a' w he hs), ⟨_, rfl, rfl⟩, ?_⟩
  exact hs.ent (Ent.trans (Pick.ro hm) (Ent.ro_ro fun z h => h.cut h1 h2))

theorem Sl.cut_ent {lo hi : Nat} (hm : Sl T a m c l ∈ L) (h1 : lo ≤ hi) (h2 : hi ≤ m) : Ent L (Sl T (cutA a lo T.sz c) (hi - lo) (c - lo) ((l.drop lo).take (hi - lo)) :: L) :=
  Ent.trans (Pick.ro hm) (Ent.ro_ro fun _ h => h.cut h1 h2)

/- 2. STRINGS -/
theorem V.sliceS {T' lo hi : Nat} {x : Operand} {y z : Option Operand} {s : List UInt8} (ho : o.op = .slice T' x y z none) (hT : P.underlying T' = some .string) (hx : ev al x = some (vS s)) (hlo : BoundOf al y 0 lo) (hhi : BoundOf al z s.length hi) (h1 : lo ≤ hi) (h2 : hi ≤ s.length) :
    OpV P n κ al L o (vS ((s.drop lo).take (hi - lo))) := V.of_run fun a' w he => by
  have hsz : (⟨⟨s⟩⟩ : ByteArray).size = s.length := rfl
  have hx' := he.ev hx
  have hb := run_sliceBounds (P := P) he (b := false) (len := (⟨⟨s⟩⟩ : ByteArray).size) (cap := (⟨⟨s⟩⟩ : ByteArray).size) hlo hhi h1 h2 w
  have hex : (⟨⟨s⟩⟩ : ByteArray).extract lo hi = ⟨⟨(s.drop lo).take (hi - lo)⟩⟩ := by
    apply ByteArray.ext
    rw [ByteArray.data_extract]
    simp
  simp [execOp, ho, Instr.sliceAt, Instr.slice, hx', run_underlying hT, hb, hex]

theorem V.indexS {T' j : Nat} {k : IntKind} {i : Int} {x y : Operand} {s : List UInt8} {u : UInt8} (ho : o.op = .index T' x y) (hT : P.underlying T' = some .string) (hx : ev al x = some (vS s)) (hy : ev al y = some (.int k i)) (hj : i = (j : Int)) (hu : s[j]? = some u) :
    OpV P n κ al L o (v8 u) := V.of_run fun a' w he => by
  subst hj
  have hx' := he.ev hx
  have hlt : j < s.length := (List.getElem?_eq_some_iff.1 hu).1
  have hg : (⟨⟨s⟩⟩ : ByteArray)[j]? = some u := by
    have h1 := getElem?_pos (⟨⟨s⟩⟩ : ByteArray) j (show j < (⟨⟨s⟩⟩ : ByteArray).size from hlt)
    rw [List.getElem?_eq_getElem hlt] at hu
    rw [h1]
    exact hu
  simp [execOp, ho, Instr.index, hx', he.ev hy, asIntOf, run_underlying hT, hg]

theorem B.addS {x y : List UInt8} (h : x.length + y.length ≤ 9223372036854775807) : BinRun P .add (vS x) (vS y) (vS (x ++ y)) := fun T w => by
  have hx : (⟨⟨x⟩⟩ : ByteArray).size = x.length := rfl
  have hy : (⟨⟨y⟩⟩ : ByteArray).size = y.length := rfl
  have hap : (⟨⟨x⟩⟩ : ByteArray) ++ ⟨⟨y⟩⟩ = ⟨⟨x ++ y⟩⟩ := by
    apply ByteArray.ext
    rw [ByteArray.data_append]
    simp
  have hn : ¬ ((((⟨⟨x⟩⟩ : ByteArray).size + (⟨⟨y⟩⟩ : ByteArray).size : Nat) : Int) > IntKind.i64.max) := by
    rw [hx, hy]; simp [IntKind.max, IntKind.signed, IntKind.bits]; omega
  refine ⟨?_, fun a b => eqGuard_string _ _ _ _ _ _ _⟩
  simp only [binOp, Op.stringOp]
  rw [if_neg hn, hap]
  simp

/- 3. WHAT IS APPENDED OR COPIED -/
/-- The value x stands for these elements. -/
def Src (P : Program) (L : List Assn) (T : Rep α) (x : Value) (l' : List α) : Prop :=
  ∀ z h, Holds z L h → ∃ cs : List Value, T.rows z cs l' ∧ (∀ u ∈ cs, u.oneCell' = true) ∧ ∀ w : World, z.le (Frag.of w) → h.le (Frag.of w) →
    (∀ k, k ≤ l'.length → (Builtin.firstCells T.sz k x).run P w = .ok (cs.take (k * T.sz)).toArray w) ∧ (Builtin.lenOf x).run P w = .ok l'.length w

theorem Src.nil {c' : Nat} : Src P L T (.slice none 0 c') [] := fun z h _ => ⟨[], Rep.rows.nil T z, fun u hu => by simp at hu, fun w _ _ => ⟨fun k hk => by simp [Builtin.firstCells], by simp [Builtin.lenOf]⟩⟩

theorem run_firstCells_row {w : World} {z : Frag} {b off k len cap : Nat} {cs : List Value} (hz : z.le (Frag.of w)) (hr : Row z b off cs) {sz : Nat} (hk : k * sz ≤ cs.length) :
    (Builtin.firstCells sz k (.slice (some ⟨b, off, none⟩) len cap)).run P w = .ok (cs.take (k * sz)).toArray w := by
  refine run_firstCells_some w sz k _ len cap _ (by simp; omega) fun j u hj => ?_
  rw [addr_add]
  rw [List.getElem?_take] at hj
  split at hj
  · exact cell_of_row hz hr hj
  · cases hj

theorem Src.sl (hsz : 0 < T.sz) (hm : Sl T a m c l ∈ L) : Src P L T (.slice a m c) l := fun z h H => by
  obtain ⟨_, _, z1, hz1, _, _, _, ⟨g1, g2, g3, g4⟩, _⟩ := Pick.ro hm z h H
  rcases g4 with g4 | ⟨b, off, cs, rfl, hr, hrows⟩
  · subst g4
    have hl : l = [] := List.eq_nil_of_length_eq_zero g1
    subst hl
    refine ⟨[], Rep.rows.nil T z, fun u hu => by simp at hu, fun w hz hh => ⟨fun k hk => ?_, by simp [Builtin.lenOf]⟩⟩
    simp at hk; subst hk
    cases a with
    | none => simp [Builtin.firstCells]
    | some a => simp [Builtin.firstCells, loadCells, loadCellsFrom]
  · refine ⟨cs, hrows.mono hz1, hrows.one hsz, fun w hz hh => ⟨fun k hk => ?_, by simp [Builtin.lenOf, g1]⟩⟩
    exact run_firstCells_row (hz1.trans hz) hr (by rw [hrows.1]; exact Nat.mul_le_mul_right _ hk)

theorem Src.blk {b E c' : Nat} {cs : List Value} (hp : Pick (Blk b E cs) L L1) (h1 : ∀ u ∈ cs, u.oneCell' = true) (hR : ∀ z h, Holds z L h → T.rows z cs l) : Src P L T (.slice (some ⟨b, 0, none⟩) l.length c') l := fun z h H => by
  obtain ⟨h1', h2', z1, _, _, hle, _, hb, _⟩ := hp z h H
  have hrows := hR z h H
  refine ⟨cs, hrows, h1, fun w hz hh => ⟨fun k hk => ?_, by simp [Builtin.lenOf]⟩⟩
  have hrow : Row h1' b 0 cs := fun i u hu => by simp only [cellAt, Nat.zero_add]; rw [show h1' b = _ from hb]; simpa using hu
  exact run_firstCells_row (hle.trans hh) hrow (by rw [hrows.1]; exact Nat.mul_le_mul_right _ hk)

theorem Src.str {s : List UInt8} : Src P L R8 (vS s) s := fun z h H => by
  refine ⟨s.map v8, rows_sc.2 ⟨rfl, fun _ _ => trivial⟩, fun u hu => ?_, fun w _ _ => ⟨fun k hk => ?_, rfl⟩⟩
  · obtain ⟨x, _, rfl⟩ := List.mem_map.1 hu; rfl
  · have hex : (⟨⟨s⟩⟩ : ByteArray).extract 0 k = ⟨⟨s.take k⟩⟩ := by
      apply ByteArray.ext
      rw [ByteArray.data_extract]
      simp
    simp only [Builtin.firstCells, R8, Rep.sc, Nat.mul_one]
    rw [hex]
    simp [List.map_take]

/- 4. APPEND -/
theorem setAt_append : ∀ (us cs rest : List Value), us.length ≤ rest.length → setAt (cs ++ rest) cs.length us = cs ++ us ++ rest.drop us.length
  | [], cs, rest, _ => by simp [setAt]
  | u :: us, cs, [], h => by simp at h
  | u :: us, cs, r :: rest, h => by
    have ih := setAt_append us (cs ++ [u]) rest (by simpa using h)
    simp only [setAt]
    rw [show (cs ++ r :: rest).set cs.length u = (cs ++ [u]) ++ rest from by simp]
    rw [show cs.length + 1 = (cs ++ [u]).length from by simp, ih]
    simp

theorem run_storeCells_row {g E : Nat} {fz : Nat × Nat} : ∀ (us : List Value) (i : Nat) (cs : List Value) (w : World), w.heap[g]? = some (.cells cs.toArray E fz) → (∀ k, i ≤ k → k < i + us.length → ¬ (fz.1 ≤ k ∧ k < fz.2)) → i + us.length ≤ cs.length →
    (∀ u ∈ us, u.oneCell' = true) → ∀ o j, o + j = i → ∃ w', (storeCells ⟨g, o, none⟩ us j).run P w = .ok () w' ∧ Sys w w' ∧ w'.heap[g]? = some (.cells (setAt cs i us).toArray E fz) ∧ ∀ k, k ≠ g → w'.heap[k]? = w.heap[k]?
  | [], i, cs, w, hg, _, _, _, o, j, _ => ⟨w, rfl, Sys.refl w, hg, fun _ _ => rfl⟩
  | u :: us, i, cs, w, hg, hf, hl, h1, o, j, hj => by
    have hlt : i < cs.length := by simp at hl; omega
    have hcell : w.cell? ⟨g, i, none⟩ = some cs[i] := by simp [World.cell?, hg, hlt]
    have hfr : w.frozen? ⟨g, i, none⟩ = false := by
      have := hf i (Nat.le_refl _) (by simp)
      simp [World.frozen?, hg]; omega
    have hg' : (w.setCell ⟨g, i, none⟩ u).heap[g]? = some (.cells (cs.set i u).toArray E fz) := by simp [World.setCell, Array.getElem?_modify, hg]
    have hk' : ∀ k, k ≠ g → (w.setCell ⟨g, i, none⟩ u).heap[k]? = w.heap[k]? := fun k hk => by
      simp only [World.setCell, Array.getElem?_modify]
      rw [if_neg (by simpa using fun e => hk e.symm)]
    obtain ⟨w', hr, hs, hb, hk⟩ := run_storeCells_row us (i + 1) (cs.set i u) _ hg' (fun k h2 h3 => hf k (by omega) (by simp; omega)) (by simp at hl ⊢; omega) (fun x hx => h1 x (List.mem_cons_of_mem _ hx)) o (j + 1) (by omega)
    refine ⟨w', ?_, ⟨hs.os, hs.tape, hs.output⟩, hb, fun k hk2 => (hk k hk2).trans (hk' k hk2)⟩
    have ha : (⟨g, o, none⟩ : Addr).add j = ⟨g, i, none⟩ := by rw [addr_add, hj]
    have hst := run_store P w ⟨g, i, none⟩ u .plain (h1 u (List.mem_cons_self ..))
    simp only [storeCells, ha]
    simp [hst, hcell, hfr, hr]

/-- What the tables say of a slice's element type. -/
def ElemTy (P : Program) (T' e sz bytes : Nat) : Prop := ∃ i z, P.underlying T' = some (.slice e) ∧ P.info? e = some i ∧ i.size = sz ∧ i.bytes = bytes ∧ i.zero = some z ∧ z.cells.size = sz

def NoInt (P : Program) (T : TypeId) : Prop := (∃ e, P.underlying T = some (.slice e)) ∨ P.underlying T = some .string

theorem run_append_room {T1 T2 ty sz bytes k : Nat} {x : Value} {new : Array Value} {w w' : World} {b : Option Addr} (hT : ElemTy P T1 e sz bytes) (hT2 : NoInt P T2)
    (hl : (Builtin.lenOf x).run P w = .ok k w) (hf : (Builtin.firstCells sz k x).run P w = .ok new w) (hc : m + k ≤ c)
    (hst : match b with | some a => (storeCells (a.add (m * sz)) new.toList).run P w = .ok () w' | none => w' = w) :
    (Builtin.append_ #[T1, T2] ty #[.slice b m c, x]).run P w = .ok (.slice b (m + k) c) w' := by
  obtain ⟨i, zz, h1, h2, h3, h4, h5, h6⟩ := hT
  subst h3
  cases b with
  | none =>
    subst hst
    rcases hT2 with ⟨e2, h7⟩ | h7 <;> simp [Builtin.append_, run_underlying h1, run_underlying h7, run_sizeOf_info h2, hl, hc, hf]
  | some a =>
    simp only at hst
    rcases hT2 with ⟨e2, h7⟩ | h7 <;> simp [Builtin.append_, run_underlying h1, run_underlying h7, run_sizeOf_info h2, hl, hc, hf, hst]

theorem run_append_more {T1 T2 ty sz bytes k : Nat} {x : Value} {new old : Array Value} {w : World} {b : Option Addr} (hT : ElemTy P T1 e sz bytes) (hT2 : NoInt P T2)
    (hl : (Builtin.lenOf x).run P w = .ok k w) (hf : (Builtin.firstCells sz k x).run P w.drew = .ok new w.drew) (hold : (Builtin.firstCells sz m (.slice b m c)).run P w.drew = .ok old w.drew) (hc : c < m + k)
    (h47 : (m + k) * bytes ≤ 140737488355328) (h63 : m + k ≤ 9223372036854775807) :
    ∃ zs : Array Value, zs.size = sz ∧ (Builtin.append_ #[T1, T2] ty #[.slice b m c, x]).run P w = .ok (.slice (some ⟨w.heap.size, 0, none⟩) (m + k) (grownCap w (m + k) c e)) (w.drew.alloc (.cells (old ++ new ++ Builtin.zeroCells zs (grownCap w (m + k) c e - (m + k))) e)) := by
  obtain ⟨i, zz, h1, h2, h3, h4, h5, h6⟩ := hT
  subst h3; subst h4
  refine ⟨zz.cells, h6, ?_⟩
  have hn : ¬ (m + k ≤ c) := by omega
  have h48 : ¬ (281474976710656 < Builtin.nextslicecap (m + k) c * i.bytes) := by have := growslice_fits hc h47; omega
  have h63' : ¬ (9223372036854775807 < ((m : Int) + (k : Int))) := by omega
  rcases hT2 with ⟨e2, h7⟩ | h7 <;> simp [Builtin.append_, run_underlying h1, run_underlying h7, sizeOf, typeInfo, zeroValue, h2, h5, hl, hn, h48, h63', Question.forced, hf, hold, newRow, grownCap]
end
end Go.Wk
