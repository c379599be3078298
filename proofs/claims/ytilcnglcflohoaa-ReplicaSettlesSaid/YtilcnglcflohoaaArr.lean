/- Arrays of bytes as elements; slices of arrays; copy into an element; families with a condition. -/
import Derived.Test.YtilcnglcflohoaaMaps
namespace Go.Wk

/- 1. ONE OF A FAMILY, UNDER A CONDITION -/
def Exp {ι : Type} (p : ι → Prop) (A : ι → List Assn) : Assn := fun z h => ∃ i, p i ∧ Holds z (A i) h
section
variable {P : Program} {f : FuncId} {n : Nat} {κ : World} {K : Post} {k : List Item} {al : List (Nat × Value)} {L L1 : List Assn} {ops : Array Oper} {rest : List Oper}
theorem Exp.close {ι : Type} {p : ι → Prop} {A : ι → List Assn} (i : ι) (hi : p i) : Ent (A i ++ L) (Exp p A :: L) := fun z h H => by
  obtain ⟨ha, hb, g1, g2, g3, g4, g5⟩ := Holds.split H
  exact ⟨ha, hb, z, Frag.le.refl _, g1, g2, g3, ⟨i, hi, g4⟩, g5⟩
theorem Sep.openExp {ι : Type} {p : ι → Prop} {A : ι → List Assn} {w : World} (hs : Sep κ w (Exp p A :: L)) : ∃ i, p i ∧ Sep κ w (A i ++ L) := by
  obtain ⟨s, z, h, d1, d2, d3, h1, h2, z1, g1, g2, g3, g4, ⟨i, hi, hA⟩, H⟩ := hs
  exact ⟨i, hi, s, z, h, d1, d2, d3, Holds.app g2 g3 g4 (Holds.mono g1 (Frag.le.refl _) hA) H⟩
theorem SG.openExp {ι : Type} {p : ι → Prop} {A : ι → List Assn} (hp : Pick (Exp p A) L L1) (h : ∀ i, p i → SG P f n κ K k al (A i ++ L1)) : SG P f n κ K k al L := fun a w he hs => by
  obtain ⟨i, hi, h2⟩ := (hs.ent hp).openExp
  exact h i hi a w he h2
theorem RL.openExp {ι : Type} {p : ι → Prop} {A : ι → List Assn} (hp : Pick (Exp p A) L L1) (h : ∀ i, p i → RL P f n κ K k ops rest al (A i ++ L1)) : RL P f n κ K k ops rest al L := fun a w he hs => by
  obtain ⟨i, hi, h2⟩ := (hs.ent hp).openExp
  exact h i hi a w he h2
theorem RH.openExp {ι : Type} {p : ι → Prop} {A : ι → List Assn} {L0 : List Assn} {x fuel : Nat} {listed : Array Bool} (hp : Pick (Exp p A) L L1) (h : ∀ i, p i → RH P f n κ K k ops L0 x fuel listed al (A i ++ L1)) : RH P f n κ K k ops L0 x fuel listed al L := fun a w he hs hn => by
  obtain ⟨i, hi, h2⟩ := (hs.ent hp).openExp
  exact h i hi a w he h2 hn
theorem Ctr.openExp {ι : Type} {p : ι → Prop} {A : ι → List Assn} {args : Array Value} (hp : Pick (Exp p A) L L1) (h : ∀ i, p i → Ctr P f args κ (A i ++ L1) K) : Ctr P f args κ L K := fun w hs => by
  obtain ⟨i, hi, h2⟩ := (hs.ent hp).openExp
  exact h i hi w h2
theorem Sep.expFact {ι : Type} {p : ι → Prop} {A : ι → List Assn} {w : World} (hs : Sep κ w L) (hp : Pick (Exp p A) L L1) : ∃ i, p i := let ⟨i, hi, _⟩ := (hs.ent hp).openExp; ⟨i, hi⟩
end

theorem mapTy_of {P : Program} {T K V : TypeId} {zs : Value} (h1 : P.underlying T = some (.map K V)) (h2 : P.underlying K = some (.int .i64)) (h3 : (P.info? V).map (·.zero) = some (some zs)) : MapTy P T V zs := by
  cases hi : P.info? V with
  | none => rw [hi] at h3; cases h3
  | some i => rw [hi] at h3; exact ⟨K, i, h1, h2, hi, by simpa using h3⟩
/- 2. HEADERS OF SLICES; ARRAYS OF BYTES -/
abbrev Tri := Option Addr × Nat × Nat
@[reducible] def tv (t : Tri) : Value := .slice t.1 t.2.1 t.2.2
def RTri : Rep Tri := Rep.sc tv (fun _ => True) (fun _ => rfl)
def RArr8 (n : Nat) : Rep (List UInt8) := Rep.dt n (fun l => l.map v8) (fun l => l.length = n) (fun l h => by simpa using h) (fun l u hu => by obtain ⟨x, _, rfl⟩ := List.mem_map.1 hu; rfl)

section
variable {P : Program} {f : FuncId} {n : Nat} {κ : World} {K : Post} {k : List Item} {al : List (Nat × Value)} {L L1 : List Assn} {o : Oper} {v : Value} {α : Type} {T : Rep α} {a : Option Addr} {m c : Nat} {l : List α} {e : TypeId}

theorem V.sliceArr {T' len E sz b i lo hi : Nat} {x : Operand} {y z : Option Operand} (ho : o.op = .slice T' x y z none) (hT : ArrTy P T' len E sz) (hx : ev al x = some (ptr b i)) (hlo : BoundOf al y 0 lo) (hhi : BoundOf al z len hi) (h0 : lo = 0) (h1 : lo ≤ hi) (h2 : hi ≤ len) :
    OpV P n κ al L o (.slice (some ⟨b, i, none⟩) hi len) := V.of_run fun a' w he => by
  obtain ⟨ti, h5, h6, rfl⟩ := hT
  subst h0
  have hadd : (if len = 0 then (⟨b, i, none⟩ : Addr) else ⟨b, i, none⟩) = ⟨b, i, none⟩ := by split <;> rfl
  simp [execOp, ho, Instr.sliceAt, he.ev hx, run_underlying h5, Instr.sureAddr, run_sliceBounds he hlo hhi h1 h2, run_sizeOf_info h6, addr_add]

/-- Addresses that are known to be there. -/
theorem V.indexAd {T' E sz j : Nat} {k : IntKind} {i : Int} {x y : Operand} {ad : Addr} (ho : o.op = .indexAddr T' x y) (hT : SliceTy P T' E sz) (hx : ev al x = some (.slice (some ad) m c)) (hy : ev al y = some (.int k i)) (hj : i = (j : Int)) (hlt : j < m) :
    OpV P n κ al L o (eptr (some ad) (j * sz)) := V.of_run fun a' w he => by
  obtain ⟨ti, h5, h6, rfl⟩ := hT
  subst hj
  simp [execOp, ho, he.ev hx, he.ev hy, Instr.indexAt, asIntOf, run_underlying h5, hlt, run_sizeOf_info h6, eptr]
theorem V.sliceAd {T' len E sz lo hi : Nat} {x : Operand} {y z : Option Operand} {ad : Addr} (ho : o.op = .slice T' x y z none) (hT : ArrTy P T' len E sz) (hx : ev al x = some (.pointer (some ad))) (hlo : BoundOf al y 0 lo) (hhi : BoundOf al z len hi) (h0 : lo = 0) (h1 : lo ≤ hi) (h2 : hi ≤ len) :
    OpV P n κ al L o (.slice (some ad) hi len) := V.of_run fun a' w he => by
  obtain ⟨ti, h5, h6, rfl⟩ := hT
  subst h0
  have hadd : ad.add 0 = ad := by unfold Addr.add; simp
  simp [execOp, ho, Instr.sliceAt, he.ev hx, run_underlying h5, Instr.sureAddr, run_sliceBounds he hlo hhi h1 h2, run_sizeOf_info h6, hadd]

theorem V.sliceEl {T' len E sz lo hi j : Nat} {x : Operand} {y z : Option Operand} (ho : o.op = .slice T' x y z none) (hT : ArrTy P T' len E sz) (hx : ev al x = some (eptr a (j * T.sz))) (hp : Pick (Buf T e a m c l) L L1) (hj : j < l.length) (hlo : BoundOf al y 0 lo) (hhi : BoundOf al z len hi) (h0 : lo = 0) (h1 : lo ≤ hi) (h2 : hi ≤ len) :
    OpV P n κ al L o (.slice (a.map (·.add (j * T.sz))) hi len) := fun a' w he hs => by
  obtain ⟨g1, _, _⟩ := hs.buf hp
  rcases (hs.ent hp).open_buf with ⟨_, h4, _⟩ | ⟨b, pre, cs, rest, fz, rfl, _⟩
  · omega
  · simp only [eptr, Option.map_some, addr_add] at hx ⊢
    exact V.sliceArr (κ := κ) (L := L) ho hT hx hlo hhi h0 h1 h2 a' w he hs

theorem V.sl2arr {T' len E sz : Nat} {x : Operand} (ho : o.op = .sliceToArrayPointer T' x) (hT : ArrTy P T' len E sz) (hx : ev al x = some (.slice a m c)) (h : len ≤ m) : OpV P n κ al L o (.pointer a) := V.of_run fun a' w he => by
  obtain ⟨ti, h5, _, _⟩ := hT
  have h' : ¬ m < len := by omega
  simp [execOp, ho, he.ev hx, Instr.arrayAt, run_underlying h5, h']
theorem V.loadArrSl {T' : TypeId} {x : Operand} {l : List UInt8} (ho : o.op = .load T' x) (hT : Agg P T' m) (hx : ev al x = some (.pointer a)) (hm : Sl R8 a m c l ∈ L) (h0 : 0 < m) : OpV P n κ al L o (.agg (l.map v8).toArray) := fun a' w he hs => by
  obtain ⟨z, hz, h1, _, _, h4⟩ := hs.sl hm
  rcases h4 with h4 | ⟨b, off, cs, rfl, hr, hrows⟩
  · omega
  · obtain ⟨rfl, _⟩ := rows_sc.1 hrows
    have hl := loadCells_bytes (P := P) hz hr
    rw [h1] at hl
    have hg := hT.agg w
    obtain ⟨d, ti, e1, e2, e3, e4⟩ := hT
    rw [← e4] at hl
    simp [execOp, ho, he.ev hx, Instr.loadAt, Instr.sureAddr, loadVar, hg, run_sizeOf_info e3, hl]

section
variable {sz : Nat} {g : α → List Value} {ok : α → Prop} {hl0 : ∀ x, ok x → (g x).length = sz} {h10 : ∀ x, ∀ u ∈ g x, u.oneCell' = true}
theorem V.loadBufDt {T' j : Nat} {y : α} {x : Operand} (ho : o.op = .load T' x) (hT : Agg P T' sz) (hx : ev al x = some (eptr a (j * (Rep.dt sz g ok hl0 h10).sz))) (hp : Pick (Buf (Rep.dt sz g ok hl0 h10) e a m c l) L L1) (hy : l[j]? = some y) : OpV P n κ al L o (.agg (g y).toArray) := fun a' w he hs => by
  have hj : j < l.length := (List.getElem?_eq_some_iff.1 hy).1
  have hs2 := hs.ent hp
  obtain ⟨g1, g2, g3⟩ := hs2.buf Pick.here
  rcases hs2.open_buf with ⟨_, h4, _⟩ | ⟨b, pre, cs, rest, fz, rfl, hfz, hl, hcs, hsF⟩
  · omega
  · obtain ⟨z, hz, hrows⟩ := hsF.get_ro (R := fun z => (Rep.dt sz g ok hl0 h10).rows z cs l) (.tail _ (.head _))
    have hrep := hrows.2 j y hy
    have hus : (g y).length = sz := hl0 _ hrep.2
    have hus' : (cs.drop (j * sz)).take sz = g y := hrep.1
    have hb := hsF.blkF
    have hcells : (loadCells ⟨b, pre.length + j * sz, none⟩ (g y).length).run P w = .ok (g y).toArray w := by
      refine run_loadCells_list w _ (g y) fun i u hi => ?_
      rw [addr_add]
      rw [← hus', List.getElem?_take] at hi
      split at hi
      · rw [List.getElem?_drop] at hi
        have hlt := (List.getElem?_eq_some_iff.1 hi).1
        simp only [World.cell?, hb]
        simp [Nat.add_assoc, List.getElem?_append_right, List.getElem?_append_left hlt, hi]
      · cases hi
    have hg := hT.agg w
    obtain ⟨d, ti, e1, e2, e3, e4⟩ := hT
    have hx' := he.ev hx
    simp [eptr, addr_add, Rep.dt] at hx'
    rw [hus, ← e4] at hcells
    rw [← e4] at hx'
    simp [execOp, ho, hx', Instr.loadAt, Instr.sureAddr, loadVar, hg, run_sizeOf_info e3, hcells]
theorem V.loadSlDt {T' j : Nat} {y : α} {x : Operand} (ho : o.op = .load T' x) (hT : Agg P T' sz) (hx : ev al x = some (eptr a (j * (Rep.dt sz g ok hl0 h10).sz))) (hm : Sl (Rep.dt sz g ok hl0 h10) a m c l ∈ L) (hy : l[j]? = some y) : OpV P n κ al L o (.agg (g y).toArray) := fun a' w he hs => by
  have hj : j < l.length := (List.getElem?_eq_some_iff.1 hy).1
  obtain ⟨z, hz, h1, _, _, h4⟩ := hs.sl hm
  rcases h4 with h4 | ⟨b, off, cs, rfl, hr, hrows⟩
  · omega
  · have hrep := hrows.2 j y hy
    have hus : (g y).length = sz := hl0 _ hrep.2
    have hus' : (cs.drop (j * sz)).take sz = g y := hrep.1
    have hr2 := hr.sub (j * sz) sz
    rw [hus'] at hr2
    have hcells : (loadCells ⟨b, off + j * sz, none⟩ (g y).length).run P w = .ok (g y).toArray w := by
      refine run_loadCells_list w _ (g y) fun i u hi => ?_
      rw [addr_add]
      exact cell_of_row hz hr2 hi
    have hg := hT.agg w
    obtain ⟨d, ti, e1, e2, e3, e4⟩ := hT
    have hx' := he.ev hx
    simp [eptr, addr_add, Rep.dt] at hx'
    rw [hus, ← e4] at hcells
    rw [← e4] at hx'
    simp [execOp, ho, hx', Instr.loadAt, Instr.sureAddr, loadVar, hg, run_sizeOf_info e3, hcells]
theorem Src.litDt {b E c' : Nat} {us : List Value} {y : α} (hp : Pick (Blk b E us) L L1) (hu : us = g y) (hok : ok y) : Src P L (Rep.dt sz g ok hl0 h10) (.slice (some ⟨b, 0, none⟩) 1 c') [y] := by
  subst hu
  exact Src.blk (l := [y]) hp (h10 y) fun z h _ => Rep.rows.single ⟨rfl, hok⟩
theorem rows_dt {z : Frag} {cs : List Value} (h : (Rep.dt sz g ok hl0 h10).rows z cs l) : ∀ x ∈ l, ok x := fun x hx => by
  obtain ⟨i, hi⟩ := List.getElem?_of_mem hx
  exact (h.2 i x hi).2
theorem Sep.bufOk {w : World} (hs : Sep κ w L) (hp : Pick (Buf (Rep.dt sz g ok hl0 h10) e a m c l) L L1) : ∀ x ∈ l, ok x := by
  obtain ⟨_, z, h, _, _, _, d⟩ := hs
  obtain ⟨h1, h2, z1, _, _, _, _, ⟨k1, _, _, k4⟩, _⟩ := hp z h d
  rcases k4 with ⟨_, k5, _⟩ | ⟨_, _, _, _, _, _, _, _, hr, _⟩
  · intro x hx
    have : l = [] := List.eq_nil_of_length_eq_zero (by omega)
    rw [this] at hx; cases hx
  · exact rows_dt hr
theorem Sep.slOk {w : World} (hs : Sep κ w L) (hm : Sl (Rep.dt sz g ok hl0 h10) a m c l ∈ L) : ∀ x ∈ l, ok x := by
  obtain ⟨z, _, k1, _, _, k4⟩ := hs.sl hm
  rcases k4 with k4 | ⟨_, _, _, _, _, hr⟩
  · intro x hx
    have : l = [] := List.eq_nil_of_length_eq_zero (by omega)
    rw [this] at hx; cases hx
  · exact rows_dt hr
end

/-- A whole block is overwritten. -/
theorem E.storeWhole {T' E0 b m' : Nat} {x y : Operand} {cs us : List Value} (ho : o.op = .store T' x y) (hx : ev al x = some (ptr b 0)) (hy : ev al y = some (.agg us.toArray)) (hm : us.length = m') (hT : ∃ ti, P.info? T' = some ti ∧ ti.size = m') (hp : Pick (Blk b E0 cs) L L1)
    (h1 : ∀ u ∈ us, u.oneCell' = true) (hl : cs.length = m') : OpE P n κ al L o fun _ M => M = Blk b E0 us :: L1 := by
  have h := E.storeAgg (n := n) (κ := κ) (L1 := L1) ho hx hy hm hT hp h1 (by omega)
  have e : setAt cs 0 us = us := by
    have := setAt_mid us [] cs [] (by omega)
    simpa using this
  rwa [e] at h

/-- The bytes of an element, as a slice. -/
theorem Src.el {w' j : Nat} {l : List (List UInt8)} {s : List UInt8} (hp : Pick (Buf (RArr8 w') e a m c l) L L1) (hy : l[j]? = some s) : Src P L R8 (.slice (a.map (·.add (j * w'))) w' w') s := fun z h H => by
  obtain ⟨h1, h2, z1, g1, g2, g3, g4, ⟨k1, k2, k3, k4⟩, _⟩ := hp z h H
  have hj : j < l.length := (List.getElem?_eq_some_iff.1 hy).1
  rcases k4 with ⟨_, k5, _⟩ | ⟨b, pre, cs, rest, fz, rfl, hb, hf, hr, hl⟩
  · omega
  · have hrep := hr.2 j s hy
    have hs : s.length = w' := hrep.2
    have hcs : (cs.drop (j * w')).take w' = s.map v8 := hrep.1
    refine ⟨s.map v8, rows_sc.2 ⟨rfl, fun _ _ => trivial⟩, fun u hu => by obtain ⟨x, _, rfl⟩ := List.mem_map.1 hu; rfl, fun w hz hh => ⟨fun k hk => ?_, by simp [Builtin.lenOf, hs]⟩⟩
    have hrow : Row h1 b pre.length cs := fun i u hu => by
      have hi : i < cs.length := (List.getElem?_eq_some_iff.1 hu).1
      simp only [cellAt, hb]
      simp [List.getElem?_append_right, List.getElem?_append_left hi, hu]
    have hrow2 := hrow.sub (j * w') w'
    rw [hcs] at hrow2
    simp only [Option.map_some, addr_add, show R8.sz = 1 from rfl]
    exact run_firstCells_row (g3.trans hh) hrow2 (by simp; omega)

theorem E.copyEl {dT E w0 d dc j : Nat} {x y : Operand} {xs : Array Operand} {ts : Array TypeId} {yv : Value} {l : List (List UInt8)} {s l2 : List UInt8} (ho : o.op = .call ⟨.builtin .copy, xs, ts⟩) (hxs : xs = #[x, y]) (hts : ts[0]? = some dT) (hdT : ElemTy P dT E 1 1) (hx : ev al x = some (.slice (a.map (·.add (j * w0))) d dc)) (hy : ev al y = some yv)
    (hp : Pick (Buf (RArr8 w0) e a m c l) L L1) (hj : l[j]? = some s) (hd : d ≤ w0) (hsrc : Src P L R8 yv l2) :
    OpE P n κ al L o fun v M => v = vI (min l2.length d : Nat) ∧ M = Buf (RArr8 w0) e a m c (l.set j (l2.take (min l2.length d) ++ s.drop (min l2.length d))) :: L1 := OpE.of_run fun a' w he hs => by
  subst hxs
  have hlt : j < l.length := (List.getElem?_eq_some_iff.1 hj).1
  have hs0 := hs
  obtain ⟨s0, z, h, d1, d2, d3, H⟩ := hs
  obtain ⟨cs2, hrows2, hone, hread⟩ := hsrc z h H
  obtain ⟨hfirst, hlen⟩ := hread w d2 d3
  obtain ⟨rfl, _⟩ := rows_sc.1 hrows2
  have hs2 := hs0.ent hp
  obtain ⟨g1, g2, g3⟩ := hs2.buf Pick.here
  obtain ⟨ti, z2, t1, t2, t3, _, _, _⟩ := hdT
  rcases hs2.open_buf with ⟨_, h4, _⟩ | ⟨b, pre, cs, rest, fz, rfl, hfz, hl, hcs, hsF⟩
  · omega
  · generalize hkdef : min l2.length d = k
    have hk1 : k ≤ l2.length := by omega
    have hk2 : k ≤ w0 := by omega
    have hf := hfirst k hk1
    simp only [show R8.sz = 1 from rfl, Nat.mul_one] at hf
    obtain ⟨zz, hz, hrows⟩ := hsF.get_ro (R := fun z => (RArr8 w0).rows z cs l) (.tail _ (.head _))
    have hrep := hrows.2 j s hj
    have hsl : s.length = w0 := hrep.2
    have hcell : (cs.drop (j * w0)).take w0 = s.map v8 := hrep.1
    have hle : j * w0 + w0 ≤ cs.length := by
      have e : cs.length = l.length * w0 := hrows.1
      rw [e]
      have : (j + 1) * w0 ≤ l.length * w0 := Nat.mul_le_mul_right _ hlt
      rwa [Nat.add_mul, Nat.one_mul] at this
    have hul : ((l2.map v8).take k).length = k := by simp; omega
    obtain ⟨w', hst, hsys, hb', hk'⟩ := run_storeCells_row (P := P) ((l2.map v8).take k) (pre.length + j * w0) (pre ++ (cs ++ rest)) w hsF.blkF (fun q h1 h2 => hfz q (by omega) (by simp; omega)) (by simp only [List.length_append, hul]; omega) (fun u hu => hone u (List.mem_of_mem_take hu)) (pre.length + j * w0) 0 (by omega)
    have hdk : (cs.drop (j * w0)).drop k = (s.map v8).drop k ++ cs.drop (j * w0 + w0) := by
      have e1 : cs.drop (j * w0) = s.map v8 ++ cs.drop (j * w0 + w0) := by
        rw [← hcell, ← List.drop_drop, List.take_append_drop]
      rw [e1, List.drop_append_of_le_length (by simp; omega)]
    have hset : setAt (pre ++ (cs ++ rest)) (pre.length + j * w0) ((l2.map v8).take k) = pre ++ ((cs.take (j * w0) ++ (l2.take k ++ s.drop k).map v8 ++ cs.drop (j * w0 + w0)) ++ rest) := by
      have hsplit : pre ++ (cs ++ rest) = (pre ++ cs.take (j * w0)) ++ ((cs.drop (j * w0)).take k) ++ ((cs.drop (j * w0)).drop k ++ rest) := by
        have e1 : cs = cs.take (j * w0) ++ ((cs.drop (j * w0)).take k ++ (cs.drop (j * w0)).drop k) := by rw [List.take_append_drop, List.take_append_drop]
        conv => lhs; rw [e1]
        simp
      have := setAt_mid ((l2.map v8).take k) (pre ++ cs.take (j * w0)) ((cs.drop (j * w0)).take k) ((cs.drop (j * w0)).drop k ++ rest) (by simp; omega)
      rw [List.length_append, List.length_take, Nat.min_eq_left (by omega)] at this
      rw [hsplit, this, hdk]
      simp [List.map_append, List.map_take, List.map_drop]
    rw [hset] at hb'
    have hs3 := hsF.changeF hsys hb' hk'
    refine ⟨_, w', _, .inl ?_, ⟨rfl, rfl⟩, ?_⟩
    · have hx' := he.ev hx
      simp only [Option.map_some, addr_add] at hx'
      have hmin : Nat.min l2.length d = k := hkdef
      simp [execOp, ho, hts, resolve, invoke, builtin, Builtin.copy_, hx', he.ev hy, run_underlying t1, hlen, run_sizeOf_info t2, t3, hmin, hf, hst, goInt]
    · refine hs3.ent (Ent.trans (Ent.frame _ (?_ : Ent _ (ro (fun z => (RArr8 w0).rows z (cs.take (j * w0) ++ (l2.take k ++ s.drop k).map v8 ++ cs.drop (j * w0 + w0)) (l.set j (l2.take k ++ s.drop k))) :: L1))) (Buf.closeO (by simp [g1]) g2 g3 (fun i hp hi => hfz i hp ?_) ?_))
      · rintro z h ⟨h1, h2, z1, f1, f2, f3, f4, q, H'⟩
        exact Holds.add_ro (Rep.rows.set (q.mono f1) hlt ⟨rfl, by simp; omega⟩) (Holds.mono (Frag.le.refl _) f4 H')
      · simp only [List.length_append, List.length_take, List.length_drop, List.length_map] at hi ⊢; omega
      · rw [← hl]; simp only [List.length_append, List.length_take, List.length_drop, List.length_map]; omega

/-- A slice of our own, cut behind. -/
theorem Buf.cut {m' : Nat} (h : m' ≤ m) : Ent (Buf T e a m c l :: L) (Buf T e a m' c (l.take m') :: L) := by
  rintro z hh ⟨h1, h2, z1, g1, g2, g3, g4, ⟨k1, k2, k3, k4⟩, H⟩
  refine ⟨h1, h2, z1, g1, g2, g3, g4, ⟨by simp; omega, by omega, k3, ?_⟩, H⟩
  rcases k4 with ⟨rfl, rfl, rfl⟩ | ⟨b, pre, cs, rest, fz, rfl, hb, hf, hr, hl⟩
  · exact .inl ⟨rfl, by omega, rfl⟩
  · refine .inr ⟨b, pre, cs.take (m' * T.sz), cs.drop (m' * T.sz) ++ rest, fz, rfl, ?_, ?_, ?_, ?_⟩
    · rw [hb]; rw [← List.append_assoc (cs.take _), List.take_append_drop]
    · rw [← List.append_assoc (cs.take _), List.take_append_drop]; exact hf
    · have := hr.sub 0 m'; simpa using this
    · rw [← List.append_assoc (cs.take _), List.take_append_drop]; exact hl
/-- A slice of our own, cut in front. -/
theorem Buf.cutFront {lo : Nat} (h : lo ≤ m) (hlc : lo < c) : Ent (Buf T e a m c l :: L) (Buf T e (cutA a lo T.sz c) (m - lo) (c - lo) (l.drop lo) :: L) := by
  rintro z hh ⟨h1, h2, z1, g1, g2, g3, g4, ⟨k1, k2, k3, k4⟩, H⟩
  refine ⟨h1, h2, z1, g1, g2, g3, g4, ⟨by simp; omega, by omega, by omega, ?_⟩, H⟩
  rcases k4 with ⟨rfl, rfl, rfl⟩ | ⟨b, pre, cs, rest, fz, rfl, hb, hf, hr, hl⟩
  · omega
  · have hcl : cs.length = m * T.sz := by rw [hr.1, k1]
    have hle : lo * T.sz ≤ cs.length := by rw [hcl]; exact Nat.mul_le_mul_right _ h
    refine .inr ⟨b, pre ++ cs.take (lo * T.sz), cs.drop (lo * T.sz), rest, fz, ?_, ?_, ?_, ?_, ?_⟩
    · have hne : ¬ c = lo := by omega
      simp [cutA, hne, addr_add, Nat.min_eq_left hle]
    · rw [hb]; congr 2
      rw [List.append_assoc, ← List.append_assoc (cs.take _), List.take_append_drop]
    · intro i hi1 hi2
      refine hf i (by simp at hi1; omega) ?_
      rwa [List.append_assoc, ← List.append_assoc (cs.take _), List.take_append_drop] at hi2
    · have := hr.sub lo (l.length - lo)
      have e1 : ((cs.drop (lo * T.sz)).take ((l.length - lo) * T.sz)) = cs.drop (lo * T.sz) := by
        apply List.take_of_length_le; rw [List.length_drop, hr.1, Nat.sub_mul]; omega
      have e2 : (l.drop lo).take (l.length - lo) = l.drop lo := List.take_of_length_le (by simp)
      rwa [e1, e2] at this
    · have : (cs.drop (lo * T.sz) ++ rest).length = (cs ++ rest).length - lo * T.sz := by simp only [List.length_append, List.length_drop]; omega
      rw [this, hl, Nat.sub_mul]
end
end Go.Wk
namespace Go.Wk
section
variable {P : Program} {f : FuncId} {n : Nat} {κ : World} {K : Post} {k : List Item} {al : List (Nat × Value)} {L L1 L' : List Assn} {ops : Array Oper} {L0 : List Assn} {x fuel : Nat} {listed : Array Bool} {α : Type} {T : Rep α} {a : Option Addr} {m c : Nat} {l : List α} {e : TypeId}
theorem Src.blk8 {b E c' : Nat} {s : List UInt8} (hs : s.length = m) (hp : Pick (Blk b E (s.map v8)) L L1) : Src P L R8 (.slice (some ⟨b, 0, none⟩) m c') s := by
  subst hs
  exact Src.blk hp (fun u hu => by obtain ⟨x, _, rfl⟩ := List.mem_map.1 hu; rfl) fun z h _ => rows_sc.2 ⟨rfl, fun _ _ => trivial⟩
theorem RH.ent (hL : Ent L L') (h : RH P f n κ K k ops L0 x fuel listed al L') : RH P f n κ K k ops L0 x fuel listed al L := h.weaken (EnvLe.refl _) hL
theorem RH.sep (h : (∀ w, Sep κ w L → Sep κ w L') ∧ RH P f n κ K k ops L0 x fuel listed al L') : RH P f n κ K k ops L0 x fuel listed al L := fun a w he hs => h.2 a w he (h.1 w hs)
theorem RH.publish (hp : Pick (Buf T e a m c l) L L1) (h : RH P f n κ K k ops L0 x fuel listed al (Sl T a m c l :: L1)) : RH P f n κ K k ops L0 x fuel listed al L := RH.sep ⟨Buf.publish (fun h => h.ent hp), h⟩
theorem RH.fact {p : Prop} (hp : ∀ w, Sep κ w L → p) (h : p → RH P f n κ K k ops L0 x fuel listed al L) : RH P f n κ K k ops L0 x fuel listed al L := fun a' w he hs => h (hp w hs) a' w he hs
theorem RH.buf (hp : Pick (Buf T e a m c l) L L1) (h : l.length = m → m ≤ c → c ≤ 9223372036854775807 → RH P f n κ K k ops L0 x fuel listed al L) : RH P f n κ K k ops L0 x fuel listed al L := fun a' w he hs => by
  obtain ⟨h1, h2, h3⟩ := hs.buf hp
  exact h h1 h2 h3 a' w he hs
/-- A slice with elements has an address. -/
theorem Sep.bufAd {w : World} (hs : Sep κ w L) (hp : Pick (Buf T e a m c l) L L1) (h : 0 < m) : ∃ ad, a = some ad := by
  rcases (hs.ent hp).open_buf with ⟨_, h4, _⟩ | ⟨b, pre, cs, rest, fz, h5, _⟩
  · omega
  · exact ⟨_, h5⟩
theorem SG.bufAd (hp : Pick (Buf T e a m c l) L L1) (h0 : 0 < m) (h : ∀ ad, a = some ad → SG P f n κ K k al L) : SG P f n κ K k al L := fun a' w he hs => by
  obtain ⟨ad, e⟩ := hs.bufAd hp h0
  exact h ad e a' w he hs
end
end Go.Wk
