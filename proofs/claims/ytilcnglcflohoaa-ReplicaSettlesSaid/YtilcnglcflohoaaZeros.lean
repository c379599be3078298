/- append of so many zero bytes; bytes stored into arrays of our own; a part of an array value; equality of array values. -/
import Derived.Test.YtilcnglcflohoaaWords
import Derived.ChangeKeysEq
import Derived.Laws.StructEq
namespace Go.Wk
section
variable {P : Program} {n : Nat} {κ : World} {al : List (Nat × Value)} {L L1 : List Assn} {o : Oper} {a : Option Addr} {m c k : Nat} {l : List UInt8} {e : TypeId}
theorem zeroCells_one (k : Nat) : Builtin.zeroCells #[Value.int .u8 0] k = ((List.replicate k (0 : UInt8)).map v8).toArray := by
  unfold Builtin.zeroCells
  apply Array.ext
  · simp
  · intro i h1 h2
    simp at h1
    simp [Nat.mod_one]
theorem run_appendZ {T1 Ti Ts ty bytes : Nat} {ik : IntKind} {w : World} (hT : ElemTy P T1 e 1 bytes) (hz : Zero P e [.int .u8 0]) (hi : P.underlying Ti = some (.int ik)) (hs : P.underlying Ts = some .string) (hk : k * bytes ≤ 1000000000) (hk2 : k ≤ 1000000000)
    (hm : (m + k) * bytes ≤ 140737488355328) (h63 : m + k ≤ 9223372036854775807) (hmc : m ≤ c) :
    (Builtin.append_ #[T1, Ti] ty #[.slice a m c, vI k]).run P w = (Builtin.append_ #[T1, Ts] ty #[.slice a m c, vS (List.replicate k 0)]).run P w := by
  obtain ⟨i, zz, h1, h2, h3, h4, h5, h6⟩ := hT
  obtain ⟨i', zz', g1, g2, g3⟩ := hz
  rw [h2] at g1; cases g1
  rw [h5] at g2; cases g2
  subst h4
  have hw : IntKind.i64.wrap (k : Int) = (k : Int) := IntWalk.i64_in _ ⟨by omega, by omega⟩
  have hl : ∀ w, (Builtin.lenOf (vS (List.replicate k 0))).run P w = .ok k w := fun w => by
    have : (⟨⟨List.replicate k (0 : UInt8)⟩⟩ : ByteArray).size = k := by
      show (List.replicate k (0 : UInt8)).length = k
      simp
    show (Builtin.lenOf (.string ⟨⟨List.replicate k 0⟩⟩)).run P w = _
    simp only [Builtin.lenOf]
    rw [this]; rfl
  have hf : ∀ w, (Builtin.firstCells 1 k (vS (List.replicate k 0))).run P w = .ok (Builtin.zeroCells #[Value.int .u8 0] k) w := fun w => by
    have hsrc := (Src.str (P := P) (L := []) (s := List.replicate k 0)) Frag.emp Frag.emp trivial
    obtain ⟨cs, hr, _, hrd⟩ := hsrc
    obtain ⟨h7, _⟩ := hrd w (Frag.emp_le _) (Frag.emp_le _)
    have h8 := h7 k (by simp)
    obtain ⟨rfl, _⟩ := rows_sc.1 hr
    rw [zeroCells_one]
    rw [show R8.sz = 1 from rfl, Nat.mul_one, List.take_of_length_le (by simp)] at h8
    exact h8
  have hz0 : k = 0 → Builtin.zeroCells #[Value.int .u8 0] k = #[] := fun e => by subst e; simp [Builtin.zeroCells]
  have hbig : ¬ (281474976710656 < (k : Int) * (i.bytes : Int)) := by
    have : ((k * i.bytes : Nat) : Int) ≤ 1000000000 := by omega
    rw [Int.natCast_mul] at this; omega
  have hneg : ¬ ((k : Int) < 0) := by omega
  have hn63 : ¬ (9223372036854775807 < ((m : Int) + (k : Int))) := by omega
  by_cases hk0 : k = 0
  · have hw0 : IntKind.i64.wrap 0 = 0 := rfl
    have hl0 := hl
    have hf0 := hf
    have he := hz0 hk0
    subst hk0
    rw [he] at hf0
    simp only [List.replicate_zero] at hl0 hf0 ⊢
    simp [Builtin.append_, run_underlying h1, run_underlying hi, run_underlying hs, sizeOf, typeInfo, zeroValue, h2, h3, h5, g3, hl0, hf0, asInt, asIntOf, hw0, hmc]
  · by_cases hc : m + k ≤ c
    · simp [Builtin.append_, run_underlying h1, run_underlying hi, run_underlying hs, sizeOf, typeInfo, zeroValue, h2, h3, h5, g3, hl, hf, asInt, asIntOf, hw, hbig, hneg, hk0, hc]
    · have h48 : ¬ (281474976710656 < Builtin.nextslicecap (m + k) c * i.bytes) := by have := growslice_fits (by omega : c < m + k) hm; omega
      simp [Builtin.append_, run_underlying h1, run_underlying hi, run_underlying hs, sizeOf, typeInfo, zeroValue, h2, h3, h5, g3, hl, hf, asInt, asIntOf, hw, hbig, hneg, hn63, hk0, hc, h48]
theorem E.appendZ {T1 Ti Ts bytes : Nat} {ik : IntKind} {xs : Array Operand} {ts : Array TypeId} {sx xx : Operand} (ho : o.op = .call ⟨.builtin .append, xs, ts⟩) (hxs : xs = #[sx, xx]) (hts : ts = #[T1, Ti]) (hT : ElemTy P T1 e 1 bytes) (hz : Zero P e [.int .u8 0]) (hi : P.underlying Ti = some (.int ik)) (hs : P.underlying Ts = some .string)
    (hx : ev al sx = some (.slice a m c)) {i : Int} (hy : ev al xx = some (vI i)) (hik : i = (k : Int)) (hp : Pick (Buf R8 e a m c l) L L1) (hk : k * bytes ≤ 1000000000) (hk2 : k ≤ 1000000000) (h47 : (m + k) * bytes ≤ 140737488355328) (h63 : m + k ≤ 9223372036854775807) :
    OpE P n κ al L o fun v M => ∃ a' c', v = .slice a' (m + k) c' ∧ M = Buf R8 e a' (m + k) c' (l ++ List.replicate k 0) :: L1 := OpE.of_run fun a' w he hsep => by
  subst hxs; subst hts; subst hik
  obtain ⟨_, hmc, _⟩ := hsep.buf hp
  have hlr : (List.replicate k (0 : UInt8)).length = k := List.length_replicate
  obtain ⟨a2, c2, w', hr, hs'⟩ := sep_append (P := P) (ty := o.type) (T := R8) hT (.inr hs) hp (Src.str (s := List.replicate k 0)) (by rw [hlr]; exact h47) (by rw [hlr]; exact h63) hsep
  rw [hlr] at hr hs'
  rw [← run_appendZ hT hz hi hs hk hk2 h47 h63 hmc] at hr
  refine ⟨_, w', _, .inl ?_, ⟨a2, c2, rfl, rfl⟩, hs'⟩
  simp [execOp, ho, resolve, invoke, builtin, he.ev hx, he.ev hy, hr]

/- equality of arrays of numbers -/
section
variable {α : Type} {f : α → Int} {ik : IntKind}
theorem run_eqItems_int {d E0 : Nat} (hE : One P E0) (hu : P.underlying E0 = some (.int ik)) (l l' : List α) (hf : ∀ x y, f x = f y → x = y) [DecidableEq α] (w : World) : ∀ is : List Nat, (∀ i ∈ is, i < l.length ∧ i < l'.length) →
    (Op.eqItems (d + 1) E0 1 (l.map fun x => Value.int ik (f x)).toArray (l'.map fun x => Value.int ik (f x)).toArray is).run P w = .ok (is.all fun i => decide (l[i]? = l'[i]?)) w
  | [], _ => by simp [Op.eqItems]
  | i :: is, h => by
    have ih := run_eqItems_int (d := d) hE hu l l' hf w is (fun j hj => h j (List.mem_cons_of_mem _ hj))
    obtain ⟨h1, h2⟩ := h i (List.mem_cons_self ..)
    have ha := hE.agg w
    have p1 : (part E0 (l.map fun x => Value.int ik (f x)).toArray (i * 1)).run P w = .ok (.int ik (f l[i])) w := by
      unfold part; simp [ha, h1]
    have p2 : (part E0 (l'.map fun x => Value.int ik (f x)).toArray (i * 1)).run P w = .ok (.int ik (f l'[i])) w := by
      unfold part; simp [ha, h2]
    have p3 : (Op.equalIn (d + 1) E0 (.int ik (f l[i])) (.int ik (f l'[i]))).run P w = .ok (f l[i] == f l'[i]) w := by
      simp [Op.equalIn, run_underlying hu]
    simp only [Op.eqItems, Sem.run_bind, p1, p2, p3, Result.andThen_ok]
    by_cases e : l[i] = l'[i]
    · simp [e, ih, h1, h2]
    · have : ¬ f l[i] = f l'[i] := fun q => e (hf _ _ q)
      simp [e, this, h1, h2]
theorem all_range [DecidableEq α] (l l' : List α) {m : Nat} (h1 : l.length = m) (h2 : l'.length = m) : ((List.range m).all fun i => decide (l[i]? = l'[i]?)) = decide (l = l') := by
  rw [Bool.eq_iff_iff]
  simp only [List.all_eq_true, List.mem_range, decide_eq_true_eq]
  constructor
  · intro h
    apply List.ext_getElem?
    intro i
    by_cases hi : i < m
    · exact h i hi
    · rw [List.getElem?_eq_none (by omega), List.getElem?_eq_none (by omega)]
  · rintro rfl i _; rfl
theorem run_equal_arr {T' E0 m : Nat} (hT : ArrTy P T' m E0 1) (hE : One P E0) (hu : P.underlying E0 = some (.int ik)) (hc : P.cellsOf E0 = 1) [DecidableEq α] (l l' : List α) (hf : ∀ x y, f x = f y → x = y) (h1 : l.length = m) (h2 : l'.length = m) (w : World) :
    (Op.equal T' (.agg (l.map fun x => Value.int ik (f x)).toArray) (.agg (l'.map fun x => Value.int ik (f x)).toArray)).run P w = .ok (decide (l = l')) w := by
  obtain ⟨ti, e1, e2, e3⟩ := hT
  show (Op.equalIn (9998 + 1 + 1) T' _ _).run P w = _
  rw [run_equalIn_array w _ _ _ e1 e2, hc, run_eqItems_int hE hu l l' hf w _ (fun i hi => by rw [List.mem_range] at hi; omega), all_range l l' h1 h2]
theorem V.eqlArr {T' T2 E0 m : Nat} {x y : Operand} (ho : o.op = .binOp .eql T' x y T2) (hT : ArrTy P T' m E0 1) (hE : One P E0) (hu : P.underlying E0 = some (.int ik)) (hc : P.cellsOf E0 = 1) (hg : P.eqGuardType P.depth T' = false) [DecidableEq α] {l l' : List α} (hf : ∀ x y, f x = f y → x = y) (h1 : l.length = m) (h2 : l'.length = m)
    (hx : ev al x = some (.agg (l.map fun x => Value.int ik (f x)).toArray)) (hy : ev al y = some (.agg (l'.map fun x => Value.int ik (f x)).toArray)) : OpV P n κ al L o (.bool (decide (l = l'))) := V.of_run fun a' w he => by
  have h3 := run_equal_arr hT hE hu hc l l' hf h1 h2 w
  have h4 : (eqGuard .eql T' x y (.agg (l.map fun x => Value.int ik (f x)).toArray) (.agg (l'.map fun x => Value.int ik (f x)).toArray)).run P w = .ok () w := by
    simp [eqGuard, hg]
  have h5 : (binOp .eql T' (.agg (l.map fun x => Value.int ik (f x)).toArray) (.agg (l'.map fun x => Value.int ik (f x)).toArray)).run P w = .ok (.bool (decide (l = l'))) w := by
    simp only [binOp, Sem.run_bind, h3]; rfl
  simp only [execOp, ho, he.ev hx, he.ev hy, Sem.run_bind, h4, Result.andThen_ok, h5]
  rfl
theorem V.neqArr {T' T2 E0 m : Nat} {x y : Operand} (ho : o.op = .binOp .neq T' x y T2) (hT : ArrTy P T' m E0 1) (hE : One P E0) (hu : P.underlying E0 = some (.int ik)) (hc : P.cellsOf E0 = 1) (hg : P.eqGuardType P.depth T' = false) [DecidableEq α] {l l' : List α} (hf : ∀ x y, f x = f y → x = y) (h1 : l.length = m) (h2 : l'.length = m)
    (hx : ev al x = some (.agg (l.map fun x => Value.int ik (f x)).toArray)) (hy : ev al y = some (.agg (l'.map fun x => Value.int ik (f x)).toArray)) : OpV P n κ al L o (.bool (decide (l ≠ l'))) := V.of_run fun a' w he => by
  have h3 := run_equal_arr hT hE hu hc l l' hf h1 h2 w
  have h4 : (eqGuard .neq T' x y (.agg (l.map fun x => Value.int ik (f x)).toArray) (.agg (l'.map fun x => Value.int ik (f x)).toArray)).run P w = .ok () w := by
    simp [eqGuard, hg]
  have h5 : (binOp .neq T' (.agg (l.map fun x => Value.int ik (f x)).toArray) (.agg (l'.map fun x => Value.int ik (f x)).toArray)).run P w = .ok (.bool (decide (l ≠ l'))) w := by
    simp only [binOp, Sem.run_bind, h3]
    by_cases e : l = l' <;> simp [e]
  simp only [execOp, ho, he.ev hx, he.ev hy, Sem.run_bind, h4, Result.andThen_ok, h5]
  rfl
theorem inj8 (x y : UInt8) (h : (x.toNat : Int) = (y.toNat : Int)) : x = y := UInt8.toNat_inj.1 (by omega)
theorem inj32 (x y : UInt32) (h : (x.toNat : Int) = (y.toNat : Int)) : x = y := UInt32.toNat_inj.1 (by omega)
end
/- bytes in arrays of our own -/
theorem E.storeB {T E0 b j : Nat} {x y : Operand} {l : List UInt8} {u : UInt8} (ho : o.op = .store T x y) (hx : ev al x = some (ptr b j)) (hy : ev al y = some (v8 u)) (hT : ∃ ti, P.info? T = some ti ∧ ti.size = 1) (hp : Pick (Blk b E0 (l.map v8)) L L1) (hl : j < l.length) :
    OpE P n κ al L o fun _ M => M = Blk b E0 ((l.set j u).map v8) :: L1 := by
  have h := E.store (n := n) (κ := κ) (al := al) (L1 := L1) (u := v8 u) [v8 u] ho hx hy rfl (m := 1) rfl hT hp (by simp [Value.oneCell']) (by simp; omega)
  have e : setAt (l.map v8) j [v8 u] = (l.set j u).map v8 := by
    simp [setAt, List.map_set]
  rwa [e] at h
theorem V.loadB {T' E0 b j : Nat} {x : Operand} {l : List UInt8} {y : UInt8} (ho : o.op = .load T' x) (hT : One P T') (hx : ev al x = some (ptr b j)) (hp : Pick (Blk b E0 (l.map v8)) L L1) (hy : l[j]? = some y) : OpV P n κ al L o (v8 y) :=
  V.load ho hT hx hp (by simp [hy])
theorem V.indexV8 {T' E0 len j : Nat} {kk : IntKind} {i : Int} {x y : Operand} {l : List UInt8} {u : UInt8} (ho : o.op = .index T' x y) (hT : ArrTy P T' len E0 1) (hE : One P E0) (hl : l.length = len) (hx : ev al x = some (.agg (l.map v8).toArray)) (hy : ev al y = some (.int kk i)) (hj : i = (j : Int)) (hu : l[j]? = some u) :
    OpV P n κ al L o (v8 u) := V.of_run fun a' w he => by
  subst hj
  obtain ⟨ti, h1, h2, h3⟩ := hT
  have hlt : j < l.length := (List.getElem?_eq_some_iff.1 hu).1
  have hlt2 : j < len := by omega
  have ha := hE.agg w
  have hp : (part E0 (l.map v8).toArray j).run P w = .ok (v8 u) w := by
    unfold part
    simp [ha, hu]
  simp [execOp, ho, Instr.index, he.ev hx, he.ev hy, asIntOf, run_underlying h1, run_sizeOf_info h2, h3, hlt2, hp]
/-- A struct value's part that is a row of cells. -/
theorem V.fieldAgg {T' q : Nat} {x : Operand} {fs : Array Field} {fd : Field} {m' : Nat} {cs us : List Value} (ho : o.op = .field T' x q) (hT : P.underlying T' = some (.struct fs)) (hq : fs[q]? = some fd) (hA : Agg P fd.type m') (hx : ev al x = some (.agg cs.toArray)) (hu : (cs.drop fd.offset).take m' = us) : OpV P n κ al L o (.agg us.toArray) := V.of_run fun a' w he => by
  have hg := hA.agg w
  obtain ⟨d, ti, h1, h2, h3, h4⟩ := hA
  subst hu
  have hp : (part fd.type cs.toArray fd.offset).run P w = .ok (.agg ((cs.drop fd.offset).take m').toArray) w := by
    unfold part
    simp [hg, run_sizeOf_info h3, h4]
  simp [execOp, ho, Instr.field, he.ev hx, run_underlying hT, hq, asAgg, hp]
theorem u32to8 (x : UInt32) : UInt8.ofNat (((x.toNat : Int)) % 256).toNat = x.toUInt8 := by
  apply UInt8.toNat_inj.1
  rw [UInt8.toNat_ofNat', UInt32.toNat_toUInt8]; omega
theorem u64to8 (x : UInt64) : UInt8.ofNat (((x.toNat : Int)) % 256).toNat = x.toUInt8 := by
  apply UInt8.toNat_inj.1
  rw [UInt8.toNat_ofNat', UInt64.toNat_toUInt8]; omega
theorem B.shr64' {x : UInt64} {k' : IntKind} {c : Int} (d : UInt64) (h0 : 0 ≤ c) (h1 : c < 64) (hd : (d.toNat : Int) = c) : BinRun P .shr (v64 x) (.int k' c) (v64 (x >>> d)) := by
  have h := B.shr (P := P) (k := .u64) (k' := k') (x := x.toNat) (y := c) h0
  have e : ((x.toNat : Int)).fdiv (2 ^ (min c.toNat IntKind.u64.bits)) = ((x >>> d).toNat : Int) := by
    have hc : c.toNat = d.toNat := by omega
    have hb : IntKind.u64.bits = 64 := rfl
    have hd64 : d.toNat < 64 := by omega
    rw [hc, hb, Nat.min_eq_left (by omega), UInt64.toNat_shiftRight, Nat.mod_eq_of_lt hd64, Nat.shiftRight_eq_div_pow, Int.fdiv_eq_ediv_of_nonneg _ (by exact Int.le_of_lt (Int.pow_pos (by decide)))]
    simp
  rwa [e] at h
/-- make([]T, 0, m). -/
theorem E.make0 {α : Type} {T : Rep α} {e : TypeId} {m : Nat} {T' bytes : Nat} {x y : Operand} {i : Int} {z0 : Value} {x0 : α} (ho : o.op = .makeSlice T' x y) (hT : ElemTy P T' e T.sz bytes) (hz : Zero P e (List.replicate T.sz z0)) (hx : ev al x = some (.int .i64 0)) (hy : ev al y = some (.int .i64 i)) (hi : i = (m : Int)) (hm : m * bytes ≤ 140737488355328) (h63 : m ≤ 9223372036854775807)
    (hrep : ∀ z, T.rep z (List.replicate T.sz z0) x0) :
    OpE P n κ al L o fun v M => ∃ b, v = .slice (some ⟨b, 0, none⟩) 0 m ∧ M = Buf T e (some ⟨b, 0, none⟩) 0 m [] :: L := OpE.of_run fun a' w he hs => by
  subst hi
  obtain ⟨ti, z, h1, h2, h3, h4, h5, h6⟩ := hT
  obtain ⟨ti', z', q1, q2, q3⟩ := hz
  rw [h2] at q1; cases q1
  rw [h5] at q2; cases q2
  have hlarge : ((ti.bytes : Int) * (m : Int)) ≤ 281474976710656 := by
    rw [h4, Int.mul_comm, ← Int.natCast_mul]; omega
  have hr := run_make (P := P) w T' e ti z h1 h2 h5 .i64 .i64 0 m (by omega) (by omega) hlarge (by omega)
  simp only [Int.toNat_natCast, h3] at hr
  have hcells : madeCells z.cells (m * T.sz) = (List.replicate (m * T.sz) z0).toArray := by
    rw [q3]
    unfold madeCells
    apply Array.ext
    · simp
    · intro i g1 g2
      simp at g1
      have hsz : 0 < T.sz := Nat.pos_of_ne_zero fun h => by rw [h] at g1; simp at g1
      have : i % T.sz < T.sz := Nat.mod_lt _ hsz
      simp [getElem!_pos, this]
  rw [hcells] at hr
  have hrun : (execOp a'.eval o).run P w = .ok (.value (.slice (some ⟨w.heap.size, 0, none⟩) 0 m)) (w.alloc (.cells (List.replicate (m * T.sz) z0).toArray e)) := by
    simp only [execOp, ho, he.ev hx, he.ev hy]
    simp only [Sem.run_bind, hr]
    rfl
  have hs' := hs.alloc (cs := List.replicate (m * T.sz) z0) (T := e)
  refine ⟨_, _, _, .inl hrun, ⟨w.heap.size, rfl, rfl⟩, hs'.ent ((Buf.of_blk (l := List.replicate m x0) (by simp) (by simp) h63 fun zz => ?_).trans (Buf.cut (Nat.zero_le _)))⟩
  refine ⟨by simp, fun i x hx => ?_⟩
  have hi := (List.getElem?_eq_some_iff.1 hx).1
  simp at hi
  have hxx : x = x0 := by simp [hi] at hx; exact hx.symm
  subst hxx
  have : ((List.replicate (m * T.sz) z0).drop (i * T.sz)).take T.sz = List.replicate T.sz z0 := by
    rw [List.drop_replicate, List.take_replicate, ← Nat.sub_mul]
    congr 1
    have : 1 * T.sz ≤ (m - i) * T.sz := Nat.mul_le_mul_right _ (by omega)
    omega
  rw [this]; exact hrep zz
theorem V.cap {T' E0 : TypeId} {xs : Array Operand} {x : Operand} (ho : o.op = .call ⟨.builtin .cap, xs, #[T']⟩) (hxs : xs = #[x]) (hT : P.underlying T' = some (.slice E0)) (hx : ev al x = some (.slice a m c)) : OpV P n κ al L o (vI c) := V.of_run fun a' w he => by
  subst hxs
  simp [execOp, ho, resolve, invoke, builtin, Builtin.cap_, he.ev hx, run_underlying hT, goInt]
/-- A literal of bytes, converted to its own type: the row gets the mark behind its last cell. -/
theorem E.convLit {T' e b m' c' : Nat} {x : Operand} {s : List UInt8} (ho : o.op = .convert T' T' x) (hT : P.underlying T' = some (.slice e)) (hu : P.underlying e = some (.int .u8)) (hx : ev al x = some (.slice (some ⟨b, 0, none⟩) m' c')) (hp : Pick (Blk b e (s.map v8)) L L1) (hm : s.length = m') (hc : m' = c') (h63 : m' ≤ 1000000000) :
    OpE P n κ al L o fun v M => v = .slice (some ⟨b, 0, none⟩) m' c' ∧ M = Buf R8 e (some ⟨b, 0, none⟩) m' m' s :: L1 := OpE.of_run fun a' w he hs => by
  subst hc; subst hm
  have hb := hs.blk hp
  have hsh : w.shape? b = some (e, s.length) := by
    unfold World.shape?; rw [hb]; simp
  have hfr : (w.freeze ⟨b, s.length, none⟩ 1).heap[b]? = some (.cells (s.map v8).toArray e (s.length, s.length + 1)) := by
    unfold World.freeze
    rw [if_neg (by decide)]
    simp [Array.getElem?_modify, hb]
  have hk : ∀ k, k ≠ b → (w.freeze ⟨b, s.length, none⟩ 1).heap[k]? = w.heap[k]? := fun k hk => by
    unfold World.freeze
    rw [if_neg (by decide)]
    simp only [Array.getElem?_modify]
    rw [if_neg (by simpa using fun e => hk e.symm)]
  have hsys : Sys w (w.freeze ⟨b, s.length, none⟩ 1) := by
    unfold World.freeze
    rw [if_neg (by decide)]
    exact ⟨rfl, rfl, rfl⟩
  have hs2 := hs.change (b := b) (A' := BlkF b e (s.map v8) (s.length, s.length + 1)) (o := .cells (s.map v8).toArray e (0, 0)) (o' := .cells (s.map v8).toArray e (s.length, s.length + 1)) hp (fun _ _ hA => ⟨hA, fun _ hb' _ => hb'⟩) hsys hfr hk
  refine ⟨_, _, _, .inl ?_, ⟨rfl, rfl⟩, hs2.ent ((Ent.frame _ (?_ : Ent L1 (ro (fun z => R8.rows z (s.map v8) s) :: L1))).trans ?_)⟩
  · simp [execOp, ho, convert, he.ev hx, run_underlying hT, run_underlying hu, markStringish, hsh]
  · exact fun z h H => Holds.add_ro (rows_sc.2 ⟨rfl, fun _ _ => trivial⟩) H
  · have h1 := Buf.close (T := R8) (b := b) (e := e) (L := L1) (m := s.length) (c := s.length) (l := s) (cs := s.map v8) (rest := []) (fz := (s.length, s.length + 1)) rfl (Nat.le_refl _) (by omega) (fun i hi => by simp at hi ⊢; omega) (by simp [show R8.sz = 1 from rfl])
    rwa [List.append_nil] at h1
end
end Go.Wk
