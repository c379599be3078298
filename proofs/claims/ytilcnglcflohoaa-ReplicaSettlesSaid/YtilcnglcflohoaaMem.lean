/- The rules of the operations on memory of our own, of calls and returns. -/
import Derived.Test.YtilcnglcflohoaaOps
namespace Go.Wk

section
variable {P : Program} {n : Nat} {κ : World} {al : List (Nat × Value)} {L L1 : List Assn} {o : Oper} {v : Value}

theorem run_sizeOf_info {T : TypeId} {i : TypeInfo} (h : P.info? T = some i) (w : World) : (sizeOf T).run P w = .ok i.size w := by
  simp [sizeOf, typeInfo, h]
theorem One.agg {T : TypeId} (h : One P T) (w : World) : (isAgg T).run P w = .ok false w := by
  obtain ⟨d, i, h1, h2, _⟩ := h
  unfold isAgg
  simp [run_underlying h1]
  cases d <;> simp_all
theorem Agg.agg {T : TypeId} {m : Nat} (h : Agg P T m) (w : World) : (isAgg T).run P w = .ok true w := by
  obtain ⟨d, i, h1, h2, _⟩ := h
  unfold isAgg
  simp [run_underlying h1]
  cases d <;> simp_all

/- 1. ADDRESSES -/
theorem addr_add (b o k : Nat) : (⟨b, o, none⟩ : Addr).add k = ⟨b, o + k, none⟩ := by
  unfold Addr.add; split
  · simp_all
  · rfl

theorem V.fieldAddr {s f off b i : Nat} {x : Operand} (ho : o.op = .fieldAddr s x f) (hx : ev al x = some (ptr b i)) (hf : FieldOff P s f off) : OpV P n κ al L o (ptr b (i + off)) := V.of_run fun a w he => by
  obtain ⟨fs, fd, ti, h1, h2, h3, h4, rfl⟩ := hf
  simp [execOp, ho, he.ev hx, Instr.fieldAt, run_underlying h1, h2, Instr.sureAddr, fieldPlace, run_sizeOf_info h3, h4, addr_add]

/-- The element's size of a slice type; of an array type. -/
def SliceTy (P : Program) (T E sz : Nat) : Prop := ∃ i, P.underlying T = some (.slice E) ∧ P.info? E = some i ∧ i.size = sz
def ArrTy (P : Program) (T len E sz : Nat) : Prop := ∃ i, P.underlying T = some (.array len E) ∧ P.info? E = some i ∧ i.size = sz

theorem V.indexArr {T len E sz b j : Nat} {k : IntKind} {i : Int} {x y : Operand} (ho : o.op = .indexAddr T x y) (hT : ArrTy P T len E sz) (hx : ev al x = some (ptr b j)) (hy : ev al y = some (.int k i)) (h0 : 0 ≤ i) (h1 : i < len) :
    OpV P n κ al L o (ptr b (j + i.toNat * sz)) := V.of_run fun a w he => by
  obtain ⟨ti, h2, h3, rfl⟩ := hT
  simp [execOp, ho, he.ev hx, he.ev hy, Instr.indexAt, asIntOf, run_underlying h2, Instr.sureAddr, h0, h1, run_sizeOf_info h3, addr_add]

/- 2. LOADS FROM BLOCKS OF OUR OWN -/
theorem cell_of_blk {w : World} {b i : Nat} {T : TypeId} {cs : List Value} {u : Value} (hs : Sep κ w L) (hp : Pick (Blk b T cs) L L1) (hc : cs[i]? = some u) : w.cell? ⟨b, i, none⟩ = some u := by
  simp [World.cell?, hs.blk hp, hc]
theorem frozen_of_blk {w : World} {b i : Nat} {T : TypeId} {cs : List Value} (hs : Sep κ w L) (hp : Pick (Blk b T cs) L L1) : w.frozen? ⟨b, i, none⟩ = false := by
  simp [World.frozen?, hs.blk hp]

theorem V.load {T E b i : Nat} {x : Operand} {cs : List Value} (ho : o.op = .load T x) (hT : One P T) (hx : ev al x = some (ptr b i)) (hp : Pick (Blk b E cs) L L1) (hc : cs[i]? = some v) : OpV P n κ al L o v := fun a w he hs => by
  have hcell := cell_of_blk hs hp hc
  simp [execOp, ho, he.ev hx, Instr.loadAt, Instr.sureAddr, loadVar, hT.agg w, hcell]

theorem V.loadAgg {T E b i m : Nat} {x : Operand} {cs us : List Value} (ho : o.op = .load T x) (hT : Agg P T m) (hx : ev al x = some (ptr b i)) (hp : Pick (Blk b E cs) L L1) (hc : (cs.drop i).take m = us) (hm : us.length = m) :
    OpV P n κ al L o (.agg us.toArray) := fun a w he hs => by
  have hl : (loadCells ⟨b, i, none⟩ us.length).run P w = .ok us.toArray w := by
    refine run_loadCells_list w _ us fun j u hj => ?_
    rw [addr_add]
    refine cell_of_blk hs hp ?_
    rw [← hc, List.getElem?_take] at hj
    split at hj
    · simpa using hj
    · cases hj
  have hg := hT.agg w
  obtain ⟨d, ti, h1, h2, h3, h4⟩ := hT
  rw [← h4] at hm
  rw [hm] at hl
  simp [execOp, ho, he.ev hx, Instr.loadAt, Instr.sureAddr, loadVar, hg, run_sizeOf_info h3, hl]

/- 3. STORES INTO BLOCKS OF OUR OWN -/
theorem OpE.of_run {K : Post} (h : ∀ a w, Env n al a → Sep κ w L → ∃ v w' M, ((execOp a.eval o).run P w = .ok (.value v) w' ∨ ((execOp a.eval o).run P w = .ok .skip w' ∧ v = undef)) ∧ K v M ∧ Sep κ w' M) : OpE P n κ al L o K := by
  intro a w he hs
  obtain ⟨v, w', M, hr, hK, hs'⟩ := h a w he hs
  unfold Oper.wp
  rcases hr with hr | ⟨hr, rfl⟩ <;> rw [hr] <;> exact ⟨_, rfl, M, hK, hs'⟩

/-- A list with these elements from place i on. -/
def setAt (cs : List Value) (i : Nat) : List Value → List Value
  | [] => cs
  | u :: us => setAt (cs.set i u) (i + 1) us

theorem run_storeCells_blk {b E : Nat} : ∀ (us : List Value) (i : Nat) (cs : List Value) (w : World) (L : List Assn), Sep κ w L → Pick (Blk b E cs) L L1 → (∀ u ∈ us, u.oneCell' = true) → i + us.length ≤ cs.length → ∀ j o, o + j = i →
    ∃ w', (storeCells ⟨b, o, none⟩ us j).run P w = .ok () w' ∧ Sep κ w' (Blk b E (setAt cs i us) :: L1)
  | [], i, cs, w, L, hs, hp, _, _, j, o, _ => ⟨w, rfl, hs.ent hp⟩
  | u :: us, i, cs, w, L, hs, hp, h1, hl, j, o, hj => by
    have hlt : i < cs.length := by simp at hl; omega
    have hcell := cell_of_blk (i := i) hs hp (List.getElem?_eq_getElem hlt)
    have hfr := frozen_of_blk (i := i) hs hp
    have hs2 := hs.setCell (i := i) u hp
    obtain ⟨w', hr, hs'⟩ := run_storeCells_blk us (i + 1) (cs.set i u) _ _ hs2 Pick.here (fun u' hu => h1 u' (List.mem_cons_of_mem _ hu)) (by simp at hl ⊢; omega) (j + 1) o (by omega)
    refine ⟨w', ?_, hs'⟩
    have ha : (⟨b, o, none⟩ : Addr).add j = ⟨b, i, none⟩ := by rw [addr_add, hj]
    simp only [storeCells, ha]
    have hst := run_store P w ⟨b, i, none⟩ u .plain (h1 u (List.mem_cons_self ..))
    simp [hst, hcell, hfr, hr]

theorem E.store {T E b i : Nat} {x y : Operand} {cs : List Value} {u : Value} {m : Nat} (us : List Value) (ho : o.op = .store T x y) (hx : ev al x = some (ptr b i)) (hy : ev al y = some u) (hu : u.cells = us.toArray) (hm : us.length = m)
    (hT : ∃ ti, P.info? T = some ti ∧ ti.size = m) (hp : Pick (Blk b E cs) L L1) (h1 : ∀ u ∈ us, u.oneCell' = true) (hl : i + m ≤ cs.length) :
    OpE P n κ al L o fun _ M => M = Blk b E (setAt cs i us) :: L1 := OpE.of_run fun a w he hs => by
  obtain ⟨ti, h2, h3⟩ := hT
  obtain ⟨w', hr, hs'⟩ := run_storeCells_blk (P := P) us i cs w L hs hp h1 (by omega) 0 i rfl
  refine ⟨undef, w', _, .inr ⟨?_, rfl⟩, rfl, hs'⟩
  simp [execOp, ho, he.ev hx, he.ev hy, Instr.storeAt, Instr.sureAddr, storeVar, run_sizeOf_info h2, hu, h3, hm, hr]

/- 4. NEW BLOCKS -/
theorem run_newRow (w : World) (e : TypeId) (c : Array Value) : (newRow e c).run P w = .ok ⟨w.heap.size, 0, none⟩ (w.alloc (.cells c e)) := by
  simp [newRow]
theorem E.alloc {T : TypeId} {zs : List Value} (ho : o.op = .alloc T) (hz : Zero P T zs) : OpE P n κ al L o fun v M => ∃ b, v = ptr b 0 ∧ M = Blk b T zs :: L := OpE.of_run fun a w he hs => by
  obtain ⟨i, z, h1, h2, h3⟩ := hz
  refine ⟨ptr w.heap.size 0, w.alloc (.cells zs.toArray T), _, .inl ?_, ⟨_, rfl, rfl⟩, hs.alloc⟩
  simp [execOp, ho, Instr.alloc, zeroValue, typeInfo, h1, h2, newVar, h3, run_newRow]
theorem E.box {T : TypeId} {x : Operand} {u : Value} (us : List Value) (ho : o.op = .box T x) (hx : ev al x = some u) (hu : u.cells = us.toArray) : OpE P n κ al L o fun v M => ∃ b, v = ptr b 0 ∧ M = Blk b T us :: L := OpE.of_run fun a w he hs => by
  refine ⟨ptr w.heap.size 0, w.alloc (.cells us.toArray T), _, .inl ?_, ⟨_, rfl, rfl⟩, hs.alloc⟩
  simp [execOp, ho, he.ev hx, Instr.box, newVar, hu, run_newRow]

/- 5. STRUCTS AND ARRAYS BUILT -/
/-- The parts, each with its cells, laid into a row. -/
def fillL (place : Nat → Option (Nat × Nat)) (cs : List Value) : List (Nat × List Value) → Option (List Value)
  | [] => some cs
  | (i, us) :: rest => match place i with
    | none => none
    | some (off, sz) => if us.length = sz ∧ off + us.length ≤ cs.length then fillL place (setAt cs off us) rest else none

theorem length_setAt : ∀ (us : List Value) (cs : List Value) (i : Nat), (setAt cs i us).length = cs.length
  | [], _, _ => rfl
  | u :: us, cs, i => by simp [setAt, length_setAt us]

theorem foldl_setAt (off : Nat) : ∀ (us : List Value) (k : Nat) (cs : List Value),
    (us.zipIdx k).foldl (fun (c : Array Value) (x : Value × Nat) => c.setIfInBounds (off + x.2) x.1) cs.toArray = (setAt cs (off + k) us).toArray
  | [], _, _ => rfl
  | u :: us, k, cs => by
    have h := foldl_setAt off us (k + 1) (cs.set (off + k) u)
    simp only [List.zipIdx_cons, List.foldl_cons, setAt]
    rw [show (cs.toArray.setIfInBounds (off + k) u) = (cs.set (off + k) u).toArray from by simp, h]
    rfl

/-- These are the parts' cells. -/
def PartsOf (al : List (Nat × Value)) : List (Nat × Operand) → List (Nat × List Value) → Prop
  | [], [] => True
  | (i, x) :: r, (j, us) :: s => i = j ∧ (∃ u, ev al x = some u ∧ u.cells = us.toArray) ∧ PartsOf al r s
  | _, _ => False

theorem run_fill {a : Act} (he : Env n al a) (place : Nat → Option (Nat × Nat)) : ∀ (ps : List (Nat × Operand)) (qs : List (Nat × List Value)) (cs : List Value) {r : List Value}, PartsOf al ps qs → fillL place cs qs = some r →
    Instr.fill place cs.toArray (ps.map fun (i, x) => (i, a.eval x)) = some r.toArray
  | [], [], cs, r, _, h => by cases h; rfl
  | [], _ :: _, _, _, h, _ => h.elim
  | _ :: _, [], _, _, h, _ => h.elim
  | (i, x) :: ps, (j, us) :: qs, cs, r, ⟨hij, ⟨u, hu, hc⟩, hr⟩, h => by
    subst hij
    simp only [fillL] at h
    simp only [List.map_cons, Instr.fill]
    cases hp : place i with
    | none => rw [hp] at h; cases h
    | some q =>
      obtain ⟨off, sz⟩ := q
      rw [hp] at h
      simp only at h
      split at h
      · rename_i hcond
        have ih := run_fill he place ps qs _ hr h
        have hfold := foldl_setAt off us 0 cs
        simp only [he.ev hu, hc]
        simp only [Nat.add_zero] at hfold
        have e1 : us.toArray.zipIdx.foldl (fun (cs : Array Value) (x : Value × Nat) => match x with | (c, j) => cs.setIfInBounds (off + j) c) cs.toArray = (setAt cs off us).toArray := by
          rw [← Array.foldl_toList]
          simpa using hfold
        rw [if_neg (by simp; omega), e1]
        exact ih
      · cases h

def BuildS (P : Program) (T : TypeId) (zs : List Value) (places : List (Nat × Nat)) : Prop :=
  Zero P T zs ∧ ∃ fs, P.underlying T = some (.struct fs) ∧ ∀ w, (fs.mapM (fun (f : Field) => Functor.map (Prod.mk f.offset) (sizeOf f.type))).run P w = .ok places.toArray w
def BuildA (P : Program) (T : TypeId) (zs : List Value) (len sz : Nat) : Prop := Zero P T zs ∧ ∃ E i, P.underlying T = some (.array len E) ∧ P.info? E = some i ∧ i.size = sz

theorem V.buildS {T : TypeId} {ps : Array (Nat × Operand)} {zs : List Value} {places : List (Nat × Nat)} (qs : List (Nat × List Value)) (ho : o.op = .build T ps) (hT : BuildS P T zs places) (hq : PartsOf al ps.toList qs) {cs : List Value} (hf : fillL (fun (i : Nat) => places[i]?) zs qs = some cs) :
    OpV P n κ al L o (.agg cs.toArray) := V.of_run fun a w he => by
  obtain ⟨⟨i, z, h1, h2, h3⟩, fs, h4, h5⟩ := hT
  have := run_fill he _ ps.toList qs zs hq hf
  simp [execOp, ho, Instr.build, zeroValue, typeInfo, h1, h2, h3, run_underlying h4, h5, this]
theorem V.buildA {T len sz : Nat} {ps : Array (Nat × Operand)} {zs : List Value} (qs : List (Nat × List Value)) (ho : o.op = .build T ps) (hT : BuildA P T zs len sz) (hq : PartsOf al ps.toList qs) {cs : List Value} (hf : fillL (fun i => some (i * sz, sz)) zs qs = some cs) :
    OpV P n κ al L o (.agg cs.toArray) := V.of_run fun a w he => by
  obtain ⟨⟨i, z, h1, h2, h3⟩, E, i', h4, h5, rfl⟩ := hT
  have := run_fill he _ ps.toList qs zs hq hf
  simp [execOp, ho, Instr.build, zeroValue, typeInfo, h1, h2, h3, run_underlying h4, run_sizeOf_info h5, this]

/- 6. CALLS -/
def IsGo (P : Program) (f : FuncId) : Prop := ∃ fn, P.funcs[f]? = some fn ∧ (fn.name == "runtime.NumGoroutine") = false ∧ fn.body.isNone = false

def evs (al : List (Nat × Value)) : List Operand → Option (List Value)
  | [] => some []
  | x :: r => match ev al x, evs al r with | some v, some vs => some (v :: vs) | _, _ => none
theorem Env.evs {a : Act} (he : Env n al a) : ∀ {xs : List Operand} {vs : List Value}, Wk.evs al xs = some vs → xs.map a.eval = vs
  | [], vs, h => by cases h; rfl
  | x :: r, vs, h => by
    simp only [Wk.evs] at h
    split at h
    · rename_i v vs' h1 h2
      cases h
      simp [he.ev h1, he.evs h2]
    · cases h

theorem run_callFunc {f : FuncId} (hf : IsGo P f) (args : Array Value) (w : World) : (callFunc f args).run P w = .ok (.enter f args) w := by
  obtain ⟨fn, h1, h2, h3⟩ := hf
  have h2' : ¬ fn.name = "runtime.NumGoroutine" := by simpa using h2
  have h3' : ¬ fn.body = none := by intro e; rw [e] at h3; cases h3
  unfold callFunc
  simp [h1, h2', h3']

theorem E.call {f : FuncId} {xs : Array Operand} {ts : Array TypeId} {vs : List Value} {K : Post} (ho : o.op = .call ⟨.value (.func f), xs, ts⟩) (hf : IsGo P f) (hx : evs al xs.toList = some vs) (hc : Ctr P f vs.toArray κ L K) : OpE P n κ al L o K := fun a w he hs => by
  have hm : xs.map a.eval = vs.toArray := by
    rw [← he.evs hx]; apply Array.ext'; simp
  have hr : (execOp a.eval o).run P w = .ok (.enter f vs.toArray) w := by
    simp [execOp, ho, resolve, Act.eval, Deferred.ofValue, invoke, hm, run_callFunc hf]
  unfold Oper.wp
  rw [hr]
  refine Calls.mono (hc w hs) ?_
  rintro e w' ⟨v, rfl, hK⟩
  exact ⟨v, rfl, hK⟩

/-- The operations that yield a value and leave memory alone, under what is asked of those that do not. -/
theorem OpE.of_val {K : Post} (h : OpV P n κ al L o v) (hK : K v L) : OpE P n κ al L o K := OpE.of_run fun a w he hs => ⟨v, w, L, .inl (h a w he hs), hK, hs⟩

/- 7. RETURNS -/
variable {f : FuncId} {fn : Func}
theorem Ret.none (hf : P.funcs[f]? = some fn) (hr : fn.results = #[]) : ReturnsOf P f n κ al L (.tuple #[]) := ⟨fn, hf, fun a w _ _ => by simp [results, hr]⟩
theorem Ret.one {t : Tmp} {u : Value} (hf : P.funcs[f]? = some fn) (hr : fn.results = #[.tmp t]) (hu : look al t = some u) : ReturnsOf P f n κ al L u := ⟨fn, hf, fun a w he _ => by
  rw [results_tmp hr, he.get t u hu]⟩
theorem Ret.two {t s : Tmp} {u u' : Value} (hf : P.funcs[f]? = some fn) (hr : fn.results = #[.tmp t, .tmp s]) (hu : look al t = some u) (hu' : look al s = some u') : ReturnsOf P f n κ al L (.tuple #[u, u']) := ⟨fn, hf, fun a w he _ => by
  rw [results_tmp2 hr, he.get t u hu, he.get s u' hu']⟩
end
end Go.Wk
