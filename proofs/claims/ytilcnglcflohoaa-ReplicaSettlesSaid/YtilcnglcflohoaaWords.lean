/- Words of 32 bits: shifts; arrays of words in blocks of our own; elements of array values. -/
import Derived.Test.YtilcnglcflohoaaNest
namespace Go.Wk
section
variable {P : Program} {f : FuncId} {n : Nat} {κ : World} {K : Post} {k : List Item} {al : List (Nat × Value)} {L L1 : List Assn} {o : Oper}
theorem B.shl32 {x : UInt32} {k' : IntKind} {c : Int} (d : UInt32) (h0 : 0 ≤ c) (h1 : c < 32) (hd : (d.toNat : Int) = c) : BinRun P .shl (v32 x) (.int k' c) (v32 (x <<< d)) := by
  have h := B.shl (P := P) (k := .u32) (k' := k') (x := x.toNat) (y := c) h0
  have e : IntKind.u32.wrap ((x.toNat : Int) * 2 ^ (min c.toNat IntKind.u32.bits)) = ((x <<< d).toNat : Int) := by
    have hc : c.toNat = d.toNat := by omega
    have hb : IntKind.u32.bits = 32 := rfl
    have hd32 : d.toNat < 32 := by omega
    rw [IntKind.wrap_u32, hc, hb, Nat.min_eq_left (by omega), UInt32.toNat_shiftLeft, Nat.mod_eq_of_lt hd32, Nat.shiftLeft_eq]
    simp
  rwa [e] at h
theorem B.shr32 {x : UInt32} {k' : IntKind} {c : Int} (d : UInt32) (h0 : 0 ≤ c) (h1 : c < 32) (hd : (d.toNat : Int) = c) : BinRun P .shr (v32 x) (.int k' c) (v32 (x >>> d)) := by
  have h := B.shr (P := P) (k := .u32) (k' := k') (x := x.toNat) (y := c) h0
  have e : ((x.toNat : Int)).fdiv (2 ^ (min c.toNat IntKind.u32.bits)) = ((x >>> d).toNat : Int) := by
    have hc : c.toNat = d.toNat := by omega
    have hb : IntKind.u32.bits = 32 := rfl
    have hd32 : d.toNat < 32 := by omega
    rw [hc, hb, Nat.min_eq_left (by omega), UInt32.toNat_shiftRight, Nat.mod_eq_of_lt hd32, Nat.shiftRight_eq_div_pow, Int.fdiv_eq_ediv_of_nonneg _ (by exact Int.le_of_lt (Int.pow_pos (by decide)))]
    simp
  rwa [e] at h
theorem V.indexW {T len E0 j b : Nat} {kk : IntKind} {i : Int} {x y : Operand} (ho : o.op = .indexAddr T x y) (hT : ArrTy P T len E0 1) (hx : ev al x = some (ptr b 0)) (hy : ev al y = some (.int kk i)) (hj : i = (j : Int)) (h1 : j < len) :
    OpV P n κ al L o (ptr b j) := by
  subst hj
  have h := V.indexArr (κ := κ) (L := L) (n := n) ho hT hx hy (by omega) (by omega)
  simpa using h
theorem V.loadW {T' E0 b j : Nat} {x : Operand} {l : List UInt32} {y : UInt32} (ho : o.op = .load T' x) (hT : One P T') (hx : ev al x = some (ptr b j)) (hp : Pick (Blk b E0 (l.map v32)) L L1) (hy : l[j]? = some y) : OpV P n κ al L o (v32 y) :=
  V.load ho hT hx hp (by simp [hy])
theorem E.storeW {T E0 b j : Nat} {x y : Operand} {l : List UInt32} {u : UInt32} (ho : o.op = .store T x y) (hx : ev al x = some (ptr b j)) (hy : ev al y = some (v32 u)) (hT : ∃ ti, P.info? T = some ti ∧ ti.size = 1) (hp : Pick (Blk b E0 (l.map v32)) L L1) (hl : j < l.length) :
    OpE P n κ al L o fun _ M => M = Blk b E0 ((l.set j u).map v32) :: L1 := by
  have h := E.store (n := n) (κ := κ) (al := al) (L1 := L1) (u := v32 u) [v32 u] ho hx hy rfl (m := 1) rfl hT hp (by simp [Value.oneCell']) (by simp; omega)
  have e : setAt (l.map v32) j [v32 u] = (l.set j u).map v32 := by
    simp [setAt, List.map_set]
  rwa [e] at h
theorem Blk.zeros {b E0 m : Nat} : Ent (Blk b E0 (List.replicate m (.int .u32 0)) :: L) (Blk b E0 ((List.replicate m (0 : UInt32)).map v32) :: L) := by
  rw [List.map_replicate]; exact Ent.refl _
/-- An element of an array value. -/
theorem V.indexV {T' E0 len j : Nat} {kk : IntKind} {i : Int} {x y : Operand} {l : List UInt32} {u : UInt32} (ho : o.op = .index T' x y) (hT : ArrTy P T' len E0 1) (hE : One P E0) (hl : l.length = len) (hx : ev al x = some (.agg (l.map v32).toArray)) (hy : ev al y = some (.int kk i)) (hj : i = (j : Int)) (hu : l[j]? = some u) :
    OpV P n κ al L o (v32 u) := V.of_run fun a' w he => by
  subst hj
  obtain ⟨ti, h1, h2, h3⟩ := hT
  obtain ⟨d, ti2, g1, g2, g3, g4⟩ := hE
  have hlt : j < l.length := (List.getElem?_eq_some_iff.1 hu).1
  have hlt2 : j < len := by omega
  have ha := One.agg ⟨d, ti2, g1, g2, g3, g4⟩ w
  have hp : (part E0 (l.map v32).toArray j).run P w = .ok (v32 u) w := by
    unfold part
    simp [ha, hu]
  simp [execOp, ho, Instr.index, he.ev hx, he.ev hy, asIntOf, run_underlying h1, run_sizeOf_info h2, h3, hlt2, hp]
end
end Go.Wk
