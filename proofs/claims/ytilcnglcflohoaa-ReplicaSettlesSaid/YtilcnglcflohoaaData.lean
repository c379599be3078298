/- Data in memory: what is immutable and read (Sl), what is ours and grows (Buf); strings; slices; append, copy, make. -/
import Derived.Test.YtilcnglcflohoaaMem
namespace Go.Wk

/- 1. HOW A TYPE's VALUES READ -/

/-- How the values of a Go type read: sz cells; 'rep z cs x': these cells read as x, by what is immutable. -/
structure Rep (α : Type) where
  sz : Nat
  rep : Frag → List Value → α → Prop
  mono : ∀ {z z' : Frag} {cs : List Value} {x : α}, z.le z' → rep z cs x → rep z' cs x
  len : ∀ {z : Frag} {cs : List Value} {x : α}, rep z cs x → cs.length = sz
  one : ∀ {z : Frag} {cs : List Value} {x : α}, rep z cs x → ∀ u ∈ cs, u.oneCell' = true

/-- One cell, which the datum determines. -/
def Rep.sc {α : Type} (val : α → Value) (ok : α → Prop) (h1 : ∀ x, (val x).oneCell' = true) : Rep α where
  sz := 1
  rep _ cs x := cs = [val x] ∧ ok x
  mono _ h := h
  len h := by rw [h.1]; rfl
  one h u hu := by rw [h.1] at hu; simp at hu; subst hu; exact h1 _

def inInt (x : Int) : Prop := -9223372036854775808 ≤ x ∧ x ≤ 9223372036854775807
def maxN : Nat := 140737488355328

def R8 : Rep UInt8 := Rep.sc v8 (fun _ => True) (fun _ => rfl)
def R32 : Rep UInt32 := Rep.sc v32 (fun _ => True) (fun _ => rfl)
def R64 : Rep UInt64 := Rep.sc v64 (fun _ => True) (fun _ => rfl)
def RI : Rep Int := Rep.sc vI inInt (fun _ => rfl)
def RB : Rep Bool := Rep.sc vB (fun _ => True) (fun _ => rfl)
def RS : Rep (List UInt8) := Rep.sc vS (fun l => l.length ≤ 9223372036854775807) (fun _ => rfl)

/-- A row of cells reads as this list. -/
def Rep.rows {α : Type} (T : Rep α) (z : Frag) (cs : List Value) (l : List α) : Prop :=
  cs.length = l.length * T.sz ∧ ∀ i x, l[i]? = some x → T.rep z ((cs.drop (i * T.sz)).take T.sz) x

def cellAt (z : Frag) (b i : Nat) : Option Value := match z b with | some (.cells c _ _) => c[i]? | _ => none
/-- These cells lie there. -/
def Row (z : Frag) (b o : Nat) (cs : List Value) : Prop := ∀ i u, cs[i]? = some u → cellAt z b (o + i) = some u

theorem cellAt_mono {z z' : Frag} {b i : Nat} {u : Value} (h : z.le z') (hc : cellAt z b i = some u) : cellAt z' b i = some u := by
  unfold cellAt at *
  cases hz : z b with
  | none => rw [hz] at hc; cases hc
  | some o => rw [h b o hz]; rw [hz] at hc; exact hc
theorem Row.mono {z z' : Frag} {b o : Nat} {cs : List Value} (h : z.le z') (hr : Row z b o cs) : Row z' b o cs := fun i u hu => cellAt_mono h (hr i u hu)
theorem Row.sub {z : Frag} {b o : Nat} {cs : List Value} (hr : Row z b o cs) (k m : Nat) : Row z b (o + k) ((cs.drop k).take m) := fun i u hu => by
  rw [List.getElem?_take] at hu
  split at hu
  · rw [List.getElem?_drop] at hu
    rw [Nat.add_assoc]; exact hr _ u hu
  · cases hu
theorem Rep.rows.mono {α : Type} {T : Rep α} {z z' : Frag} {cs : List Value} {l : List α} (h : z.le z') (hr : T.rows z cs l) : T.rows z' cs l := ⟨hr.1, fun i x hx => T.mono h (hr.2 i x hx)⟩
theorem Rep.rows.nil {α : Type} (T : Rep α) (z : Frag) : T.rows z [] [] := ⟨by simp, fun i x hx => by simp at hx⟩
theorem Rep.rows.sub {α : Type} {T : Rep α} {z : Frag} {cs : List Value} {l : List α} (hr : T.rows z cs l) (k m : Nat) : T.rows z ((cs.drop (k * T.sz)).take (m * T.sz)) ((l.drop k).take m) := by
  refine ⟨?_, fun i x hx => ?_⟩
  · simp only [List.length_take, List.length_drop, hr.1]
    rw [← Nat.sub_mul]
    rcases Nat.le_total m (l.length - k) with h | h
    · rw [Nat.min_eq_left (Nat.mul_le_mul_right _ h), Nat.min_eq_left h]
    · rw [Nat.min_eq_right (Nat.mul_le_mul_right _ h), Nat.min_eq_right h]
  · rw [List.getElem?_take] at hx
    split at hx
    · rename_i hlt
      rw [List.getElem?_drop] at hx
      have h := hr.2 (k + i) x hx
      have e : ((((cs.drop (k * T.sz)).take (m * T.sz)).drop (i * T.sz)).take T.sz) = (cs.drop ((k + i) * T.sz)).take T.sz := by
        rw [List.drop_take, List.drop_drop, List.take_take, Nat.add_mul]
        congr 1
        have : (i + 1) * T.sz ≤ m * T.sz := Nat.mul_le_mul_right _ hlt
        rw [Nat.add_mul] at this
        omega
      rw [e]; exact h
    · cases hx
theorem Rep.rows.append {α : Type} {T : Rep α} {z : Frag} {cs cs' : List Value} {l l' : List α} (hr : T.rows z cs l) (hr' : T.rows z cs' l') : T.rows z (cs ++ cs') (l ++ l') := by
  refine ⟨by simp [hr.1, hr'.1, Nat.add_mul], fun i x hx => ?_⟩
  by_cases h : i < l.length
  · rw [List.getElem?_append_left h] at hx
    have h1 := hr.2 i x hx
    have : (i + 1) * T.sz ≤ l.length * T.sz := Nat.mul_le_mul_right _ h
    rw [Nat.add_mul, ← hr.1] at this
    rw [List.drop_append_of_le_length (by omega), List.take_append_of_le_length (by simp; omega)]
    exact h1
  · rw [List.getElem?_append_right (by omega)] at hx
    have h1 := hr'.2 _ x hx
    have e : i * T.sz = cs.length + (i - l.length) * T.sz := by rw [hr.1, ← Nat.add_mul]; congr 1; omega
    rw [e, List.drop_append]
    rw [show cs.drop (cs.length + (i - l.length) * T.sz) = [] from List.drop_eq_nil_of_le (by omega)]
    rw [show cs.length + (i - l.length) * T.sz - cs.length = (i - l.length) * T.sz from by omega]
    simpa using h1
theorem Rep.rows.single {α : Type} {T : Rep α} {z : Frag} {cs : List Value} {x : α} (hr : T.rep z cs x) : T.rows z cs [x] := by
  have hl := T.len hr
  refine ⟨by simp [hl], fun i y hy => ?_⟩
  match i, hy with
  | 0, hy => simp at hy; subst hy; simpa [← hl] using hr
/-- One cell an element. -/
theorem rows_sc {α : Type} {val : α → Value} {ok : α → Prop} {h1 : ∀ x, (val x).oneCell' = true} {z : Frag} {cs : List Value} {l : List α} : (Rep.sc val ok h1).rows z cs l ↔ cs = l.map val ∧ ∀ x ∈ l, ok x := by
  constructor
  · rintro ⟨hl, hr⟩
    simp only [Rep.sc, Nat.mul_one] at hl hr
    refine ⟨?_, fun x hx => ?_⟩
    · apply List.ext_getElem (by simp [hl])
      intro i h1 h2
      simp at h2
      have := (hr i l[i] (List.getElem?_eq_getElem h2)).1
      rw [List.drop_eq_getElem_cons h1] at this
      simp only [List.take_succ_cons, List.take_zero, List.cons.injEq, and_true] at this
      simpa using this
    · obtain ⟨i, hi, rfl⟩ := List.getElem_of_mem hx
      exact (hr i l[i] (List.getElem?_eq_getElem hi)).2
  · rintro ⟨rfl, hok⟩
    refine ⟨by simp [Rep.sc], fun i x hx => ?_⟩
    simp only [Rep.sc, Nat.mul_one]
    have hi : i < l.length := (List.getElem?_eq_some_iff.1 hx).1
    have hx' : l[i] = x := by rw [List.getElem?_eq_getElem hi] at hx; exact Option.some.inj hx
    refine ⟨?_, hok x (by rw [← hx']; exact List.getElem_mem hi)⟩
    rw [List.drop_eq_getElem_cons (by simpa using hi)]
    simp [hx']
theorem Rep.rows.one {α : Type} {T : Rep α} {z : Frag} {cs : List Value} {l : List α} (hsz : 0 < T.sz) (hr : T.rows z cs l) : ∀ u ∈ cs, u.oneCell' = true := by
  intro u hu
  obtain ⟨j, hj, rfl⟩ := List.getElem_of_mem hu
  have hlt : j / T.sz < l.length := by rw [Nat.div_lt_iff_lt_mul hsz]; rw [← hr.1]; exact hj
  have h := hr.2 (j / T.sz) l[j / T.sz] (List.getElem?_eq_getElem hlt)
  refine T.one h _ (List.mem_of_getElem? (i := j % T.sz) ?_)
  have hm : j % T.sz < T.sz := Nat.mod_lt _ hsz
  rw [List.getElem?_take, if_pos hm, List.getElem?_drop]
  have : j / T.sz * T.sz + j % T.sz = j := by rw [Nat.mul_comm]; exact Nat.div_add_mod j T.sz
  rw [this, List.getElem?_eq_getElem hj]

/-- An immutable slice. -/
def SlP {α : Type} (T : Rep α) (a : Option Addr) (m c : Nat) (l : List α) (z : Frag) : Prop :=
  l.length = m ∧ m ≤ c ∧ c ≤ 9223372036854775807 ∧ (m = 0 ∨ ∃ b o cs, a = some ⟨b, o, none⟩ ∧ Row z b o cs ∧ T.rows z cs l)
def Sl {α : Type} (T : Rep α) (a : Option Addr) (m c : Nat) (l : List α) : Assn := ro (SlP T a m c l)
theorem SlP.mono {α : Type} {T : Rep α} {a : Option Addr} {m c : Nat} {l : List α} {z z' : Frag} (h : z.le z') : SlP T a m c l z → SlP T a m c l z'
  | ⟨h1, h2, h3, h4⟩ => ⟨h1, h2, h3, h4.imp id fun ⟨b, o, cs, e, r, s⟩ => ⟨b, o, cs, e, r.mono h, s.mono h⟩⟩
def Rep.slice {α : Type} (T : Rep α) : Rep (List α) where
  sz := 1
  rep z cs l := ∃ a m c, cs = [.slice a m c] ∧ SlP T a m c l z
  mono h := fun ⟨a, m, c, e, s⟩ => ⟨a, m, c, e, s.mono h⟩
  len := fun ⟨_, _, _, e, _⟩ => by rw [e]; rfl
  one := fun ⟨_, _, _, e, _⟩ u hu => by rw [e] at hu; simp at hu; subst hu; rfl

/-- A slice that is ours, with room behind it. -/
def Buf {α : Type} (T : Rep α) (e : TypeId) (a : Option Addr) (m c : Nat) (l : List α) : Assn := fun z h =>
  l.length = m ∧ m ≤ c ∧ c ≤ 9223372036854775807 ∧ ((a = none ∧ m = 0 ∧ c = 0) ∨
    ∃ (b : Nat) (pre cs rest : List Value) (fz : Nat × Nat), a = some ⟨b, pre.length, none⟩ ∧ h b = some (.cells (pre ++ (cs ++ rest)).toArray e fz) ∧ (∀ i, pre.length ≤ i → i < (pre ++ (cs ++ rest)).length → ¬ (fz.1 ≤ i ∧ i < fz.2)) ∧ T.rows z cs l ∧ (cs ++ rest).length = c * T.sz)

section
variable {P : Program} {n : Nat} {κ : World} {al : List (Nat × Value)} {L L1 : List Assn} {o : Oper} {v : Value} {α : Type} {T : Rep α} {a : Option Addr} {m c : Nat} {l : List α} {e : TypeId}

theorem Buf.nil : Ent L (Buf T e none 0 0 [] :: L) := fun z h H => ⟨Frag.emp, h, z, Frag.le.refl _, Frag.emp_disj _, Frag.emp_le _, Frag.le.refl _, ⟨rfl, Nat.le_refl _, by omega, .inl ⟨rfl, rfl, rfl⟩⟩, H⟩

/-- What was ours becomes immutable. -/
theorem Buf.publish (h : ∀ {w}, Sep κ w L → Sep κ w (Buf T e a m c l :: L1)) : ∀ w, Sep κ w L → Sep κ w (Sl T a m c l :: L1) := fun w hs =>
  (h hs).publish fun z hh z' ⟨h1, h2, h3, h4⟩ hz hh' => ⟨h1, h2, h3, by
    rcases h4 with ⟨_, h, _⟩ | ⟨b, pre, cs, rest, fz, ea, hb, _, hr, _⟩
    · exact .inl h
    · refine .inr ⟨b, pre.length, cs, ea, fun i u hu => ?_, hr.mono hz⟩
      have hi : i < cs.length := (List.getElem?_eq_some_iff.1 hu).1
      simp only [cellAt, hh' b _ hb]
      simp [List.getElem?_append_right, List.getElem?_append_left hi, hu]⟩

theorem Blk.publish {b E : Nat} {cs : List Value} {R : Frag → Prop} (h : ∀ {w}, Sep κ w L → Sep κ w (Blk b E cs :: L1)) (hR : ∀ z, Row z b 0 cs → R z) : ∀ w, Sep κ w L → Sep κ w (ro R :: L1) := fun w hs =>
  (h hs).publish fun z hh z' hb _ hh' => hR z' fun i u hu => by simp only [cellAt, hh' b _ hb, Nat.zero_add]; simpa using hu

/-- A block of our own as a slice of our own. -/
theorem Buf.of_blk {b : Nat} {cs : List Value} (hc : cs.length = c * T.sz) (hl : l.length = c) (hb : c ≤ 9223372036854775807) (hR : ∀ z, T.rows z cs l) : Ent (Blk b e cs :: L) (Buf T e (some ⟨b, 0, none⟩) c c l :: L) :=
  fun _ _ ⟨h1, h2, z1, A, B, C, D, E, F⟩ => ⟨h1, h2, z1, A, B, C, D, ⟨hl, Nat.le_refl _, hb, .inr ⟨b, [], cs, [], (0, 0), rfl, by simpa [Blk] using E, fun i _ _ => by omega, hR z1, by simpa using hc⟩⟩, F⟩

theorem Sep.buf {w : World} (h : Sep κ w L) (hp : Pick (Buf T e a m c l) L L1) : l.length = m ∧ m ≤ c ∧ c ≤ 9223372036854775807 := by
  obtain ⟨_, z, x, _, _, _, d⟩ := h
  obtain ⟨_, _, _, _, _, _, _, hA, _⟩ := hp z x d
  exact ⟨hA.1, hA.2.1, hA.2.2.1⟩
theorem Sep.sl {w : World} (h : Sep κ w L) (hm : Sl T a m c l ∈ L) : ∃ z : Frag, z.le (Frag.of w) ∧ SlP T a m c l z := h.get_ro hm

theorem cell_of_row {w : World} {z : Frag} {b o i : Nat} {cs : List Value} {u : Value} (hz : z.le (Frag.of w)) (hr : Row z b o cs) (hu : cs[i]? = some u) : w.cell? ⟨b, o + i, none⟩ = some u := by
  have h := cellAt_mono hz (hr i u hu)
  unfold cellAt Frag.of at h
  unfold World.cell?
  simp only
  split at h
  · rename_i h1; rw [h1]; simpa using h
  · cases h

/- 2. READING SLICES -/

/-- The address of element j. -/
def eptr (a : Option Addr) (k : Nat) : Value := .pointer (a.map (·.add k))

theorem V.len {T' : TypeId} {xs : Array Operand} {x : Operand} (ho : o.op = .call ⟨.builtin .len, xs, #[T']⟩) (hxs : xs = #[x]) {E : TypeId} (hT : P.underlying T' = some (.slice E)) (hx : ev al x = some (.slice a m c)) : OpV P n κ al L o (vI m) := V.of_run fun a' w he => by
  subst hxs
  simp [execOp, ho, resolve, invoke, builtin, Builtin.len_, he.ev hx, run_underlying hT, goInt]
theorem V.lenS {T' : TypeId} {xs : Array Operand} {x : Operand} {s : List UInt8} (ho : o.op = .call ⟨.builtin .len, xs, #[T']⟩) (hxs : xs = #[x]) (hT : P.underlying T' = some .string) (hx : ev al x = some (vS s)) : OpV P n κ al L o (vI s.length) := V.of_run fun a' w he => by
  subst hxs
  have hx' := he.ev hx
  simp [execOp, ho, resolve, invoke, builtin, Builtin.len_, hx', run_underlying hT, goInt]
  rfl

theorem V.indexSl {T' E j : Nat} {k : IntKind} {i : Int} {x y : Operand} (ho : o.op = .indexAddr T' x y) (hT : SliceTy P T' E T.sz) (hx : ev al x = some (.slice a m c)) (hy : ev al y = some (.int k i)) (hm : Sl T a m c l ∈ L) (hj : i = (j : Int)) (hlt : j < l.length) :
    OpV P n κ al L o (eptr a (j * T.sz)) := fun a' w he hs => by
  obtain ⟨z, hz, h1, _, _, h4⟩ := hs.sl hm
  obtain ⟨ti, h5, h6, h7⟩ := hT
  rcases h4 with h4 | ⟨b, off, cs, rfl, _, _⟩
  · omega
  · subst hj
    have h8 : j < m := by omega
    simp [execOp, ho, he.ev hx, he.ev hy, Instr.indexAt, asIntOf, run_underlying h5, h8, run_sizeOf_info h6, h7, addr_add, eptr]

theorem V.loadSc {val : α → Value} {ok : α → Prop} {h1 : ∀ x, (val x).oneCell' = true} {T' j : Nat} {y : α} {x : Operand} (ho : o.op = .load T' x) (hT : One P T') (hx : ev al x = some (eptr a (j * (Rep.sc val ok h1).sz)))
    (hm : Sl (Rep.sc val ok h1) a m c l ∈ L) (hy : l[j]? = some y) : OpV P n κ al L o (val y) := fun a' w he hs => by
  obtain ⟨z, hz, h2, _, _, h4⟩ := hs.sl hm
  have hj : j < l.length := (List.getElem?_eq_some_iff.1 hy).1
  rcases h4 with h4 | ⟨b, off, cs, rfl, hr, hrows⟩
  · omega
  · obtain ⟨rfl, _⟩ := rows_sc.1 hrows
    have hcell := cell_of_row (i := j) hz hr (u := val y) (by simp [hy])
    simp only [Rep.sc, Nat.mul_one] at hx
    have hx' := he.ev hx
    simp [eptr, addr_add] at hx'
    simp [execOp, ho, hx', Instr.loadAt, Instr.sureAddr, loadVar, hT.agg w, hcell]

/-- Cells that read as y. -/
def Rd {α : Type} (T : Rep α) (cs : List Value) (y : α) : Assn := ro fun z => T.rep z cs y

/-- A whole element: its cells are not known by name, but they read as it. -/
theorem E.loadElem {T' j : Nat} {y : α} {x : Operand} (ho : o.op = .load T' x) (hT : Agg P T' T.sz) (hx : ev al x = some (eptr a (j * T.sz))) (hm : Sl T a m c l ∈ L) (hy : l[j]? = some y) :
    OpE P n κ al L o fun v M => ∃ us, v = .agg us.toArray ∧ M = Rd T us y :: L := fun a' w he hs => by
  obtain ⟨s, z, h, d1, d2, d3, d4⟩ := hs
  obtain ⟨z1, hz1, h1, _, _, h4⟩ : ∃ z1 : Frag, z1.le z ∧ SlP T a m c l z1 := by
    obtain ⟨_, _, z1, e, _, _, _, f, _⟩ := Pick.ro hm z h d4
    exact ⟨z1, e, f⟩
  have hj : j < l.length := (List.getElem?_eq_some_iff.1 hy).1
  rcases h4 with h4 | ⟨b, off, cs, rfl, hr, hrows⟩
  · omega
  · have hrep := hrows.2 j y hy
    have hus := T.len hrep
    have hr2 := hr.sub (j * T.sz) T.sz
    generalize hus' : (cs.drop (j * T.sz)).take T.sz = us at *
    have hl : (loadCells ⟨b, off + j * T.sz, none⟩ us.length).run P w = .ok us.toArray w := by
      refine run_loadCells_list w _ us fun i u hi => ?_
      rw [addr_add]
      exact cell_of_row (hz1.trans d2) hr2 hi
    have hg := hT.agg w
    obtain ⟨d, ti, e1, e2, e3, e4⟩ := hT
    have hx' := he.ev hx
    simp [eptr, addr_add] at hx'
    rw [hus, ← e4] at hl
    have hrun : (execOp a'.eval o).run P w = .ok (.value (.agg us.toArray)) w := by
      rw [← e4] at hx'
      simp [execOp, ho, hx', Instr.loadAt, Instr.sureAddr, loadVar, hg, run_sizeOf_info e3, hl]
    unfold Oper.wp
    rw [hrun]
    refine ⟨_, rfl, _, ⟨us, rfl, rfl⟩, s, z, h, d1, d2, d3, Frag.emp, h, z1, hz1, Frag.emp_disj _, Frag.emp_le _, Frag.le.refl _, hrep, d4⟩
end
end Go.Wk
