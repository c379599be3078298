/- The rules of the single operations: numbers, slots, blocks of our own, calls. -/
import Derived.Test.YtilcnglcflohoaaExec
import Derived.KernelRfl
namespace Go.Wk

/- 1. VALUES -/
@[reducible] def vI (x : Int) : Value := .int .i64 x
@[reducible] def vB (b : Bool) : Value := .bool b
@[reducible] def v8 (x : UInt8) : Value := .int .u8 (x.toNat : Int)
@[reducible] def v32 (x : UInt32) : Value := .int .u32 (x.toNat : Int)
@[reducible] def v64 (x : UInt64) : Value := .int .u64 (x.toNat : Int)
@[reducible] def vS (l : List UInt8) : Value := .string ⟨⟨l⟩⟩
@[reducible] def ptr (b o : Nat) : Value := .pointer (some ⟨b, o, none⟩)

/- 2. WHAT THE PROGRAM'S TABLES SAY (closed facts) -/
def FieldOff (P : Program) (s f off : Nat) : Prop := ∃ fs fd i, P.underlying s = some (.struct fs) ∧ fs[f]? = some fd ∧ P.info? fd.type = some i ∧ i.size ≠ 0 ∧ fd.offset = off
def fieldOffB (P : Program) (s f off : Nat) : Bool := match P.underlying s with
  | some (.struct fs) => match fs[f]? with
    | some fd => match P.info? fd.type with
      | some i => i.size != 0 && fd.offset == off
      | none => false
    | none => false
  | _ => false
theorem fieldOff_of {P : Program} {s f off : Nat} (h : fieldOffB P s f off = true) : FieldOff P s f off := by
  unfold fieldOffB at h
  split at h
  · rename_i fs h1
    split at h
    · rename_i fd h2
      split at h
      · rename_i i h3
        simp only [Bool.and_eq_true, bne_iff_ne, beq_iff_eq] at h
        exact ⟨fs, fd, i, h1, h2, h3, h.1, h.2⟩
      · cases h
    · cases h
  · cases h

/-- A variable of type T is one cell. -/
def One (P : Program) (T : TypeId) : Prop := ∃ d i, P.underlying T = some d ∧ (match d with | .struct _ | .array _ _ => false | _ => true) = true ∧ P.info? T = some i ∧ i.size = 1
def oneB (P : Program) (T : TypeId) : Bool := match P.underlying T with
  | some d => (match d with | .struct _ | .array _ _ => false | _ => true) && (match P.info? T with | some i => i.size == 1 | none => false)
  | none => false
theorem one_of {P : Program} {T : TypeId} (h : oneB P T = true) : One P T := by
  unfold oneB at h
  split at h
  · rename_i d h1
    simp only [Bool.and_eq_true] at h
    obtain ⟨h2, h3⟩ := h
    split at h3
    · rename_i i h4
      exact ⟨d, i, h1, h2, h4, by simpa using h3⟩
    · cases h3
  · cases h
/-- A variable of type T is a row of m cells (a struct, an array). -/
def Agg (P : Program) (T : TypeId) (m : Nat) : Prop := ∃ d i, P.underlying T = some d ∧ (match d with | .struct _ | .array _ _ => true | _ => false) = true ∧ P.info? T = some i ∧ i.size = m
def aggB (P : Program) (T : TypeId) (m : Nat) : Bool := match P.underlying T with
  | some d => (match d with | .struct _ | .array _ _ => true | _ => false) && (match P.info? T with | some i => i.size == m | none => false)
  | none => false
theorem agg_of {P : Program} {T : TypeId} {m : Nat} (h : aggB P T m = true) : Agg P T m := by
  unfold aggB at h
  split at h
  · rename_i d h1
    simp only [Bool.and_eq_true] at h
    obtain ⟨h2, h3⟩ := h
    split at h3
    · rename_i i h4
      exact ⟨d, i, h1, h2, h4, by simpa using h3⟩
    · cases h3
  · cases h
/-- The zero of type T, as cells. -/
def Zero (P : Program) (T : TypeId) (zs : List Value) : Prop := ∃ i z, P.info? T = some i ∧ i.zero = some z ∧ z.cells = zs.toArray

section
variable {P : Program} {n : Nat} {κ : World} {al : List (Nat × Value)} {L : List Assn} {o : Oper} {v : Value}

/-- It yields v whatever the memory. -/
theorem V.of_run (h : ∀ a w, Env n al a → (execOp a.eval o).run P w = .ok (.value v) w) : OpV P n κ al L o v := fun a w he _ => h a w he

/- 3. SLOTS -/
theorem V.move {x : Operand} (ho : o.op = .move x) (hx : ev al x = some v) : OpV P n κ al L o v := V.of_run fun a w he => by
  simp [execOp, ho, he.ev hx]
theorem V.assign {x : Operand} (ho : o.op = .assign x) (hx : ev al x = some v) : OpV P n κ al L o v := V.of_run fun a w he => by
  simp [execOp, ho, he.ev hx]
theorem V.pick {c x y : Operand} {t : Bool} {u u' : Value} (ho : o.op = .pick c x y) (hc : ev al c = some (.bool t)) (hx : ev al x = some u) (hy : ev al y = some u') : OpV P n κ al L o (if t then u else u') := V.of_run fun a w he => by
  simp [execOp, ho, he.ev hc, he.ev hx, he.ev hy, asBool]
theorem V.pick_true {c x y : Operand} {u : Value} (ho : o.op = .pick c x y) (hc : ev al c = some (.bool true)) (hx : ev al x = some u) : OpV P n κ al L o u := V.of_run fun a w he => by
  simp [execOp, ho, he.ev hc, he.ev hx, asBool]
theorem V.pick_false {c x y : Operand} {u : Value} (ho : o.op = .pick c x y) (hc : ev al c = some (.bool false)) (hy : ev al y = some u) : OpV P n κ al L o u := V.of_run fun a w he => by
  simp [execOp, ho, he.ev hc, he.ev hy, asBool]
theorem V.extract {x : Operand} {i : Nat} {vs : Array Value} {u : Value} (ho : o.op = .extract x i) (hx : ev al x = some (.tuple vs)) (hu : vs[i]? = some u) : OpV P n κ al L o u := V.of_run fun a w he => by
  simp [execOp, ho, he.ev hx, Instr.extract, hu]
theorem V.nilCheck {x : Operand} {a0 : Addr} (ho : o.op = .nilCheck x) (hx : ev al x = some (.pointer (some a0))) : OpV P n κ al L o (.pointer (some a0)) := V.of_run fun a w he => by
  simp [execOp, ho, he.ev hx]
theorem V.not {T : TypeId} {x : Operand} {b : Bool} (ho : o.op = .unOp .not T x) (hx : ev al x = some (.bool b)) : OpV P n κ al L o (.bool (!b)) := V.of_run fun a w he => by
  simp [execOp, ho, he.ev hx, Op.unary]

/- 4. NUMBERS -/
/-- This operator yields v on x and y. -/
def BinRun (P : Program) (op : BinOp) (x y v : Value) : Prop := ∀ T w, (binOp op T x y).run P w = .ok v w ∧ ∀ a b, (eqGuard op T a b x y).run P w = .ok () w
theorem V.bin {op : BinOp} {T T' : TypeId} {x y : Operand} {u u' : Value} (ho : o.op = .binOp op T x y T') (hx : ev al x = some u) (hy : ev al y = some u') (hr : BinRun P op u u' v) : OpV P n κ al L o v := V.of_run fun a w he => by
  obtain ⟨h1, h2⟩ := hr T w
  simp [execOp, ho, he.ev hx, he.ev hy, h1, h2]

theorem beq_dec {α : Type} [BEq α] [LawfulBEq α] [DecidableEq α] (x y : α) : (x == y) = decide (x = y) := by by_cases h : x = y <;> simp [h]

theorem eqGuard_int (op : BinOp) (T : TypeId) (x y : Operand) (k k' : IntKind) (m m' : Int) (w : World) : (eqGuard op T x y (.int k m) (.int k' m')).run P w = .ok () w := by
  unfold eqGuard; split <;> simp
theorem eqGuard_bool (op : BinOp) (T : TypeId) (x y : Operand) (m m' : Bool) (w : World) : (eqGuard op T x y (.bool m) (.bool m')).run P w = .ok () w := by
  unfold eqGuard; split <;> simp
theorem eqGuard_string (op : BinOp) (T : TypeId) (x y : Operand) (m m' : ByteArray) (w : World) : (eqGuard op T x y (.string m) (.string m')).run P w = .ok () w := by
  unfold eqGuard; split <;> simp

theorem B.add {k : IntKind} {x y : Int} : BinRun P .add (.int k x) (.int k y) (.int k (k.wrap (x + y))) := fun T w =>
  ⟨by simp [binOp, Op.intArith], fun a b => eqGuard_int _ _ _ _ _ _ _ _ _⟩
theorem B.sub {k : IntKind} {x y : Int} : BinRun P .sub (.int k x) (.int k y) (.int k (k.wrap (x - y))) := fun T w =>
  ⟨by simp [binOp, Op.intArith], fun a b => eqGuard_int _ _ _ _ _ _ _ _ _⟩
theorem B.mul {k : IntKind} {x y : Int} : BinRun P .mul (.int k x) (.int k y) (.int k (k.wrap (x * y))) := fun T w =>
  ⟨by simp [binOp, Op.intArith], fun a b => eqGuard_int _ _ _ _ _ _ _ _ _⟩
theorem B.quo {k : IntKind} {x y : Int} (hy : y ≠ 0) : BinRun P .quo (.int k x) (.int k y) (.int k (k.wrap (x.tdiv y))) := fun T w =>
  ⟨by simp [binOp, Op.intDiv, hy], fun a b => eqGuard_int _ _ _ _ _ _ _ _ _⟩
theorem B.rem {k : IntKind} {x y : Int} (hy : y ≠ 0) : BinRun P .rem (.int k x) (.int k y) (.int k (x.tmod y)) := fun T w =>
  ⟨by simp [binOp, Op.intDiv, hy], fun a b => eqGuard_int _ _ _ _ _ _ _ _ _⟩
theorem B.lss {k : IntKind} {x y : Int} : BinRun P .lss (.int k x) (.int k y) (.bool (decide (x < y))) := fun T w =>
  ⟨by simp [binOp, Op.intCmp], fun a b => eqGuard_int _ _ _ _ _ _ _ _ _⟩
theorem B.leq {k : IntKind} {x y : Int} : BinRun P .leq (.int k x) (.int k y) (.bool (decide (x ≤ y))) := fun T w =>
  ⟨by simp [binOp, Op.intCmp], fun a b => eqGuard_int _ _ _ _ _ _ _ _ _⟩
theorem B.gtr {k : IntKind} {x y : Int} : BinRun P .gtr (.int k x) (.int k y) (.bool (decide (y < x))) := fun T w =>
  ⟨by simp [binOp, Op.intCmp], fun a b => eqGuard_int _ _ _ _ _ _ _ _ _⟩
theorem B.geq {k : IntKind} {x y : Int} : BinRun P .geq (.int k x) (.int k y) (.bool (decide (y ≤ x))) := fun T w =>
  ⟨by simp [binOp, Op.intCmp], fun a b => eqGuard_int _ _ _ _ _ _ _ _ _⟩
theorem B.eql {k : IntKind} {x y : Int} : BinRun P .eql (.int k x) (.int k y) (.bool (decide (x = y))) := fun T w =>
  ⟨by simp [binOp, Op.intCmp, beq_dec], fun a b => eqGuard_int _ _ _ _ _ _ _ _ _⟩
theorem B.neq {k : IntKind} {x y : Int} : BinRun P .neq (.int k x) (.int k y) (.bool (decide (x ≠ y))) := fun T w =>
  ⟨by simp [binOp, Op.intCmp, bne, beq_dec], fun a b => eqGuard_int _ _ _ _ _ _ _ _ _⟩
theorem B.eqlS {x y : List UInt8} : BinRun P .eql (vS x) (vS y) (.bool (decide (x = y))) := fun T w =>
  ⟨by simp [binOp, Op.stringOp, ByteArray.toList_eq, beq_dec], fun a b => eqGuard_string _ _ _ _ _ _ _⟩
theorem B.neqS {x y : List UInt8} : BinRun P .neq (vS x) (vS y) (.bool (decide (x ≠ y))) := fun T w =>
  ⟨by simp [binOp, Op.stringOp, ByteArray.toList_eq, beq_dec], fun a b => eqGuard_string _ _ _ _ _ _ _⟩
/- in range -/
theorem B.addI {x y : Int} (h1 : -9223372036854775808 ≤ x + y) (h2 : x + y ≤ 9223372036854775807) : BinRun P .add (vI x) (vI y) (vI (x + y)) := by
  have h := B.add (P := P) (k := .i64) (x := x) (y := y)
  rwa [show IntKind.i64.wrap (x + y) = x + y from IntWalk.i64_in _ ⟨h1, h2⟩] at h
theorem B.subI {x y : Int} (h1 : -9223372036854775808 ≤ x - y) (h2 : x - y ≤ 9223372036854775807) : BinRun P .sub (vI x) (vI y) (vI (x - y)) := by
  have h := B.sub (P := P) (k := .i64) (x := x) (y := y)
  rwa [show IntKind.i64.wrap (x - y) = x - y from IntWalk.i64_in _ ⟨h1, h2⟩] at h
theorem B.mulI {x y : Int} (h1 : -9223372036854775808 ≤ x * y) (h2 : x * y ≤ 9223372036854775807) : BinRun P .mul (vI x) (vI y) (vI (x * y)) := by
  have h := B.mul (P := P) (k := .i64) (x := x) (y := y)
  rwa [show IntKind.i64.wrap (x * y) = x * y from IntWalk.i64_in _ ⟨h1, h2⟩] at h
theorem B.quoI {x y : Int} (hx : 0 ≤ x) (hx2 : x ≤ 9223372036854775807) (hy : 0 < y) : BinRun P .quo (vI x) (vI y) (vI (x / y)) := by
  have h := B.quo (P := P) (k := .i64) (x := x) (y := y) (by omega)
  have h3 : x.tdiv y = x / y := Int.tdiv_eq_ediv_of_nonneg hx
  have h4 : 0 ≤ x / y := Int.ediv_nonneg hx (by omega)
  have h5 : x / y ≤ x := Int.ediv_le_self _ hx
  rw [h3] at h
  rwa [show IntKind.i64.wrap (x / y) = x / y from IntWalk.i64_in _ ⟨by omega, by omega⟩] at h
theorem B.remI {x y : Int} (hx : 0 ≤ x) (hy : 0 < y) : BinRun P .rem (vI x) (vI y) (vI (x % y)) := by
  have h := B.rem (P := P) (k := .i64) (x := x) (y := y) (by omega)
  rwa [Int.tmod_eq_emod_of_nonneg hx] at h
end
end Go.Wk
