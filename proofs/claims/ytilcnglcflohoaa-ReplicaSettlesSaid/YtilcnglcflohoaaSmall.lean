/- Closed facts on the program's tables, by the kernel; small builtins; how a call is entered. -/
import Derived.Test.YtilcnglcflohoaaGrow
namespace Go.Wk

def zipAl : Nat → List Value → List (Nat × Value)
  | _, [] => []
  | k, v :: r => (k, v) :: zipAl (k + 1) r
theorem look_zipAl : ∀ (vs : List Value) (k t : Nat) (v : Value), look (zipAl k vs) t = some v → k ≤ t ∧ vs[t - k]? = some v
  | [], _, _, _, h => by cases h
  | u :: r, k, t, v, h => by
    simp only [zipAl, look_cons] at h
    split at h
    · rename_i e; subst e; cases h; exact ⟨Nat.le_refl _, by simp⟩
    · obtain ⟨h1, h2⟩ := look_zipAl r (k + 1) t v h
      refine ⟨by omega, ?_⟩
      rw [show t - k = (t - (k + 1)) + 1 from by omega]
      simpa using h2

section
variable {P : Program} {f : FuncId} {n : Nat} {κ : World} {K : Post} {L L1 : List Assn} {al : List (Nat × Value)} {o : Oper} {v : Value}

theorem Ctr.enter {fn : Func} {c : Code} {vs : List Value} (hf : P.funcs[f]? = some fn) (hb : fn.body = some c) {al : List (Nat × Value)} (hal : zipAl 0 vs = al) {m : Nat} (hm : vs.length + (fn.ntmps - vs.length) = m)
    (h : SG P f m κ K [.code c] al L) : Ctr P f vs.toArray κ L K := by
  subst hal
  have hm' : vs.toArray.size + (fn.ntmps - vs.toArray.size) = m := by simpa using hm
  refine Ctr.intro hf hb (zipAl 0 vs) (Env.enter fun t v ht => ?_) (by rw [hm']; exact h)
  have := (look_zipAl vs 0 t v ht).2
  simpa using this

def elemTyB (P : Program) (T e sz bytes : Nat) : Bool := match P.underlying T with
  | some (.slice e') => e' == e && (match P.info? e with
    | some i => i.size == sz && i.bytes == bytes && (match i.zero with | some z => z.cells.size == sz | none => false)
    | none => false)
  | _ => false
theorem elemTy_of {T e sz bytes : Nat} (h : elemTyB P T e sz bytes = true) : ElemTy P T e sz bytes := by
  unfold elemTyB at h
  split at h
  · rename_i e' h1
    simp only [Bool.and_eq_true, beq_iff_eq] at h
    obtain ⟨rfl, h⟩ := h
    split at h
    · rename_i i h2
      simp only [Bool.and_eq_true, beq_iff_eq] at h
      obtain ⟨⟨h3, h4⟩, h5⟩ := h
      split at h5
      · rename_i z h6
        exact ⟨i, z, h1, h2, h3, h4, h6, by simpa using h5⟩
      · cases h5
    · cases h
  · cases h
theorem ElemTy.slice {T e sz bytes : Nat} (h : ElemTy P T e sz bytes) : SliceTy P T e sz := let ⟨i, _, a, b, c, _⟩ := h; ⟨i, a, b, c⟩
theorem ElemTy.noInt {T e sz bytes : Nat} (h : ElemTy P T e sz bytes) : NoInt P T := let ⟨_, _, a, _⟩ := h; .inl ⟨_, a⟩
theorem ElemTy.under {T e sz bytes : Nat} (h : ElemTy P T e sz bytes) : P.underlying T = some (.slice e) := let ⟨_, _, a, _⟩ := h; a
theorem zero_of {T : TypeId} {zs : List Value} (h : (P.info? T).map (fun i => i.zero.map fun z => z.cells) = some (some zs.toArray)) : Zero P T zs := by
  cases hi : P.info? T with
  | none => rw [hi] at h; cases h
  | some i =>
    rw [hi] at h
    simp only [Option.map_some, Option.some.injEq] at h
    cases hz : i.zero with
    | none => rw [hz] at h; cases h
    | some z => rw [hz] at h; exact ⟨i, z, hi, hz, by simpa using h⟩
def arrTyB (P : Program) (T len e sz : Nat) : Bool := match P.underlying T with
  | some (.array len' e') => len' == len && e' == e && (match P.info? e with | some i => i.size == sz | none => false)
  | _ => false
theorem arrTy_of {T len e sz : Nat} (h : arrTyB P T len e sz = true) : ArrTy P T len e sz := by
  unfold arrTyB at h
  split at h
  · rename_i len' e' h1
    simp only [Bool.and_eq_true, beq_iff_eq] at h
    obtain ⟨⟨rfl, rfl⟩, h⟩ := h
    split at h
    · rename_i i h2; exact ⟨i, h1, h2, by simpa using h⟩
    · cases h
  · cases h
theorem buildA_of {T len e sz : Nat} {zs : List Value} (hz : Zero P T zs) (ha : ArrTy P T len e sz) : BuildA P T zs len sz := let ⟨i, a, b, c⟩ := ha; ⟨hz, e, i, a, b, c⟩
theorem isGo_of {fn : Func} (hf : P.funcs[f]? = some fn) (h : (!(fn.name == "runtime.NumGoroutine") && fn.body.isSome) = true) : IsGo P f := by
  simp only [Bool.and_eq_true, Bool.not_eq_true'] at h
  exact ⟨fn, hf, h.1, by rw [← Option.not_isSome, h.2]; rfl⟩
theorem size_of {T m : Nat} (h : (P.info? T).map (·.size) = some m) : ∃ ti, P.info? T = some ti ∧ ti.size = m := by
  cases hi : P.info? T with
  | none => rw [hi] at h; cases h
  | some i => exact ⟨i, rfl, by rw [hi] at h; simpa using h⟩

/- min, max -/
theorem V.min {xs : Array Operand} {ts : Array TypeId} {x y : Operand} {k : IntKind} {i j : Int} (ho : o.op = .call ⟨.builtin .min, xs, ts⟩) (hxs : xs = #[x, y]) (hx : ev al x = some (.int k i)) (hy : ev al y = some (.int k j)) : OpV P n κ al L o (.int k (if j < i then j else i)) := V.of_run fun a' w he => by
  subst hxs
  simp [execOp, ho, resolve, invoke, builtin, Builtin.min_, Builtin.min2, he.ev hx, he.ev hy]
theorem V.max {xs : Array Operand} {ts : Array TypeId} {x y : Operand} {k : IntKind} {i j : Int} (ho : o.op = .call ⟨.builtin .max, xs, ts⟩) (hxs : xs = #[x, y]) (hx : ev al x = some (.int k i)) (hy : ev al y = some (.int k j)) : OpV P n κ al L o (.int k (if i < j then j else i)) := V.of_run fun a' w he => by
  subst hxs
  simp [execOp, ho, resolve, invoke, builtin, Builtin.max_, Builtin.max2, he.ev hx, he.ev hy]

/- Conversions -/
theorem V.toInt {S D : TypeId} {x : Operand} {k k' : IntKind} {i : Int} (ho : o.op = .convert S D x) (hS : ∃ d, P.underlying S = some d) (hD : P.underlying D = some (.int k')) (hx : ev al x = some (.int k i)) : OpV P n κ al L o (.int k' (k'.wrap i)) := V.of_run fun a' w he => by
  obtain ⟨d, hd⟩ := hS
  simp [execOp, ho, convert, run_underlying hd, run_underlying hD, he.ev hx, Conv.intToInt]
end
end Go.Wk
