/- Slices of slices of our own; elements that are slices, loaded. -/
import Derived.Test.YtilcnglcflohoaaArr
namespace Go.Wk
section
variable {P : Program} {f : FuncId} {n : Nat} {κ : World} {K : Post} {k : List Item} {al : List (Nat × Value)} {L L1 L' : List Assn} {o : Oper} {α : Type} {T : Rep α} {a : Option Addr} {m c : Nat} {e : TypeId}

/-- A one-cell element, read from memory. -/
theorem E.loadBufSl {T' j : Nat} {l : List (List α)} {y : List α} {x : Operand} (ho : o.op = .load T' x) (hT : One P T') (hx : ev al x = some (eptr a (j * (Rep.slice T).sz))) (hp : Pick (Buf (Rep.slice T) e a m c l) L L1) (hy : l[j]? = some y) :
    OpE P n κ al L o fun v M => ∃ a' m' c', v = .slice a' m' c' ∧ M = Sl T a' m' c' y :: L := OpE.of_run fun a' w he hs => by
  have hj : j < l.length := (List.getElem?_eq_some_iff.1 hy).1
  have hs0 := hs
  obtain ⟨s, z, h, d1, d2, d3, H⟩ := hs
  obtain ⟨h1, h2, z1, g1, g2, g3, g4, ⟨k1, k2, k3, k4⟩, _⟩ := hp z h H
  rcases k4 with ⟨_, k5, _⟩ | ⟨b, pre, cs, rest, fz, rfl, hb, hf, hr, hl⟩
  · omega
  · obtain ⟨a1, m1, c1, hcs, hsl⟩ := hr.2 j y hy
    have hsz : (Rep.slice T).sz = 1 := rfl
    rw [hsz, Nat.mul_one] at hcs
    have hlt : j < cs.length := by have h0 : cs.length = l.length * 1 := hr.1; omega
    have hcell0 : cs[j]? = some (.slice a1 m1 c1) := by
      rw [List.drop_eq_getElem_cons hlt] at hcs
      simp only [List.take_succ_cons, List.take_zero, List.cons.injEq, and_true] at hcs
      rw [List.getElem?_eq_getElem hlt, hcs]
    have hbw : w.heap[b]? = some (.cells (pre ++ (cs ++ rest)).toArray e fz) := d3 b _ (g3 b _ hb)
    have hcell : w.cell? ⟨b, pre.length + j, none⟩ = some (.slice a1 m1 c1) := by
      simp only [World.cell?, hbw]
      simp [List.getElem?_append_right, List.getElem?_append_left hlt, hcell0]
    have hx' := he.ev hx
    simp [eptr, addr_add, hsz] at hx'
    refine ⟨_, w, _, .inl ?_, ⟨a1, m1, c1, rfl, rfl⟩, s, z, h, d1, d2, d3, Holds.add_ro (hsl.mono g1) H⟩
    simp [execOp, ho, hx', Instr.loadAt, Instr.sureAddr, loadVar, hT.agg w, hcell]
theorem E.loadSlSl {T' j : Nat} {l : List (List α)} {y : List α} {x : Operand} (ho : o.op = .load T' x) (hT : One P T') (hx : ev al x = some (eptr a (j * (Rep.slice T).sz))) (hm : Sl (Rep.slice T) a m c l ∈ L) (hy : l[j]? = some y) :
    OpE P n κ al L o fun v M => ∃ a' m' c', v = .slice a' m' c' ∧ M = Sl T a' m' c' y :: L := OpE.of_run fun a' w he hs => by
  have hj : j < l.length := (List.getElem?_eq_some_iff.1 hy).1
  obtain ⟨s, z, h, d1, d2, d3, H⟩ := hs
  obtain ⟨h1, h2, z1, g1, g2, g3, g4, ⟨k1, k2, k3, k4⟩, _⟩ := Pick.ro hm z h H
  rcases k4 with k5 | ⟨b, off, cs, rfl, hrow, hr⟩
  · omega
  · obtain ⟨a1, m1, c1, hcs, hsl⟩ := hr.2 j y hy
    have hsz : (Rep.slice T).sz = 1 := rfl
    rw [hsz, Nat.mul_one] at hcs
    have hlt : j < cs.length := by have h0 : cs.length = l.length * 1 := hr.1; omega
    have hcell0 : cs[j]? = some (.slice a1 m1 c1) := by
      rw [List.drop_eq_getElem_cons hlt] at hcs
      simp only [List.take_succ_cons, List.take_zero, List.cons.injEq, and_true] at hcs
      rw [List.getElem?_eq_getElem hlt, hcs]
    have hcell := cell_of_row (g1.trans d2) hrow hcell0
    have hx' := he.ev hx
    simp [eptr, addr_add, hsz] at hx'
    refine ⟨_, w, _, .inl ?_, ⟨a1, m1, c1, rfl, rfl⟩, s, z, h, d1, d2, d3, Holds.add_ro (hsl.mono g1) H⟩
    simp [execOp, ho, hx', Instr.loadAt, Instr.sureAddr, loadVar, hT.agg w, hcell]

/-- A slice of slices of our own. -/
def nown (T : Rep α) (e : TypeId) (x : Tri × List α) : Assn := Buf T e x.1.1 x.1.2.1 x.1.2.2 x.2
def Nest (T : Rep α) (e eo : TypeId) (a : Option Addr) (m c : Nat) (S : List (List α)) : Assn := Exp (fun (xs : List (Tri × List α)) => xs.map (·.2) = S) fun xs => [Buf RTri eo a m c (xs.map (·.1)), Each (nown T e) xs]
/-- Slice k is brought forward: ts: the headers, xs: the other slices. -/
structure NFwd (T : Rep α) (e eo : TypeId) (a : Option Addr) (m c : Nat) (S : List (List α)) (k : Nat) (l : List α) (ts : List Tri) (a1 : Option Addr) (m1 c1 : Nat) (xs : List (Tri × List α)) : Prop where
  at_ : ts[k]? = some (a1, m1, c1)
  len : ts.length = S.length
  back : ∀ L, Ent (Buf RTri eo a m c ts :: Buf T e a1 m1 c1 l :: Each (nown T e) xs :: L) (Nest T e eo a m c S :: L)
  put : ∀ (a' : Option Addr) (m' c' : Nat) (l' : List α) (L : List Assn), Ent (Buf RTri eo a m c (ts.set k (a', m', c')) :: Buf T e a' m' c' l' :: Each (nown T e) xs :: L) (Nest T e eo a m c (S.set k l') :: L)
variable {S : List (List α)} {q : Nat} {l : List α} {eo : TypeId} {w : World}
theorem Nest.close {xs : List (Tri × List α)} (h : xs.map (·.2) = S) : Ent (Buf RTri eo a m c (xs.map (·.1)) :: Each (nown T e) xs :: L) (Nest T e eo a m c S :: L) :=
  Exp.close (ι := List (Tri × List α)) (p := fun xs => xs.map (·.2) = S) (A := fun xs => [Buf RTri eo a m c (xs.map (·.1)), Each (nown T e) xs]) xs h
theorem sep_nfwd (hs : Sep κ w (Nest T e eo a m c S :: L)) (hk : S[q]? = some l) : ∃ ts a1 m1 c1 xs, NFwd T e eo a m c S q l ts a1 m1 c1 xs ∧ Sep κ w (Buf RTri eo a m c ts :: Buf T e a1 m1 c1 l :: Each (nown T e) xs :: L) := by
  obtain ⟨xs, hx, hs⟩ := hs.openExp
  have hk' : (xs.map (·.2))[q]? = some l := by rw [hx]; exact hk
  rw [List.getElem?_map] at hk'
  cases hq : xs[q]? with
  | none => rw [hq] at hk'; cases hk'
  | some x =>
    obtain ⟨⟨a1, m1, c1⟩, l1⟩ := x
    rw [hq] at hk'; cases hk'
    have hlt : q < xs.length := (List.getElem?_eq_some_iff.1 hq).1
    refine ⟨xs.map (fun (x : Tri × List α) => x.1), a1, m1, c1, xs.eraseIdx q, ⟨by rw [List.getElem?_map, hq]; rfl, by rw [← hx]; simp, fun L => ?_, fun a' m' c' l' L => ?_⟩, hs.ent (Ent.frame _ (Each.take (f := nown T e) hq))⟩
    · exact Ent.trans (Ent.frame _ (Each.back' (f := nown T e) hq)) (Nest.close hx)
    · have h1 : (xs.set q ((a', m', c'), l')).map (·.2) = S.set q l' := by rw [List.map_set, hx]
      have h2 : (xs.map (·.1)).set q (a', m', c') = (xs.set q ((a', m', c'), l')).map (·.1) := by rw [List.map_set]
      rw [h2]
      exact Ent.trans (Ent.frame _ (Each.back (f := nown T e) (y := ((a', m', c'), l')) hlt)) (Nest.close h1)
theorem SG.nest (hp : Pick (Nest T e eo a m c S) L L1) (hk : S[q]? = some l) (h : ∀ ts a1 m1 c1 xs, NFwd T e eo a m c S q l ts a1 m1 c1 xs → SG P f n κ K k al (Buf RTri eo a m c ts :: Buf T e a1 m1 c1 l :: Each (nown T e) xs :: L1)) : SG P f n κ K k al L := fun a' w he hs => by
  obtain ⟨ts, a1, m1, c1, xs, hF, hs'⟩ := sep_nfwd (hs.ent hp) hk
  exact h ts a1 m1 c1 xs hF a' w he hs'
theorem RL.nest {ops : Array Oper} {rest : List Oper} (hp : Pick (Nest T e eo a m c S) L L1) (hk : S[q]? = some l) (h : ∀ ts a1 m1 c1 xs, NFwd T e eo a m c S q l ts a1 m1 c1 xs → RL P f n κ K k ops rest al (Buf RTri eo a m c ts :: Buf T e a1 m1 c1 l :: Each (nown T e) xs :: L1)) : RL P f n κ K k ops rest al L := fun a' w he hs => by
  obtain ⟨ts, a1, m1, c1, xs, hF, hs'⟩ := sep_nfwd (hs.ent hp) hk
  exact h ts a1 m1 c1 xs hF a' w he hs'
theorem Sep.nestLen (hs : Sep κ w L) (hp : Pick (Nest T e eo a m c S) L L1) : S.length = m := by
  obtain ⟨xs, hx, hs⟩ := (hs.ent hp).openExp
  have := (hs.buf Pick.here).1
  rw [← hx]; simpa using this
theorem Nest.nil : Ent L (Nest T e eo none 0 0 [] :: L) := Ent.trans (Ent.trans Each.nil Buf.nil) (Nest.close (xs := []) rfl)
theorem SG.openNest (hp : Pick (Nest T e eo a m c S) L L1) (h : ∀ ts xs, ts = xs.map (·.1) → xs.map (·.2) = S → SG P f n κ K k al (Buf RTri eo a m c ts :: Each (nown T e) xs :: L1)) : SG P f n κ K k al L := SG.openExp hp fun xs hx => h _ xs rfl hx
/-- One more. -/
theorem Nest.snoc {ts : List Tri} {xs : List (Tri × List α)} {a1 : Option Addr} {m1 c1 : Nat} (ht : ts = xs.map (·.1)) (hx : xs.map (·.2) = S) : Ent (Buf RTri eo a m c (ts ++ [(a1, m1, c1)]) :: Buf T e a1 m1 c1 l :: Each (nown T e) xs :: L) (Nest T e eo a m c (S ++ [l]) :: L) := by
  have h2 : ts ++ [(a1, m1, c1)] = (xs ++ [((a1, m1, c1), l)]).map (·.1) := by rw [ht]; simp
  rw [h2]
  exact Ent.trans (Ent.frame _ (Each.snoc (f := nown T e) (x := ((a1, m1, c1), l)))) (Nest.close (by simp [hx]))
end
end Go.Wk
namespace Go.Wk
section
variable {P : Program} {n : Nat} {κ : World} {al : List (Nat × Value)} {L : List Assn} {o : Oper} {a : Option Addr}
theorem V.fieldAt {s f off k : Nat} {x : Operand} {us : List Value} (ho : o.op = .fieldAddr s x f) (hx : ev al x = some (eptr a k)) (hf : FieldOff P s f off) (hm : At a k us ∈ L) : OpV P n κ al L o (eptr a (k + off)) := fun a' w he hs => by
  obtain ⟨z, hz, b, o', rfl, hr⟩ := hs.get_ro hm
  have hx' : ev al x = some (ptr b (o' + k)) := by rw [hx]; simp [eptr, addr_add]
  have := V.fieldAddr (κ := κ) (L := L) (n := n) ho hx' hf a' w he hs
  simpa [eptr, addr_add, Nat.add_assoc] using this
theorem V.loadAtF {T' k off : Nat} {x : Operand} {u : Value} {us : List Value} (ho : o.op = .load T' x) (hT : One P T') (hx : ev al x = some (eptr a (k + off))) (hm : At a k us ∈ L) (hu : us[off]? = some u) : OpV P n κ al L o u := fun a' w he hs => by
  obtain ⟨z, hz, b, o', rfl, hr⟩ := hs.get_ro hm
  have hcell := cell_of_row hz hr hu
  have hx' := he.ev hx
  simp [eptr, addr_add] at hx'
  rw [Nat.add_assoc] at hcell
  simp [execOp, ho, hx', Instr.loadAt, Instr.sureAddr, loadVar, hT.agg w, hcell]
end
end Go.Wk
namespace Go.Wk
section
variable {P : Program} {L L1 : List Assn} {α : Type} {T : Rep α} {a : Option Addr} {m c : Nat}
theorem rows_one_sl {z h : Frag} {l : List α} (hx : Sl T a m c l ∈ L) (H : Holds z L h) : (Rep.slice T).rows z [.slice a m c] [l] := Rep.rows.single (H.slr hx)
theorem Src.litSl {b E c' : Nat} {y : List α} (hp : Pick (Blk b E [.slice a m c]) L L1) (hm : Sl T a m c y ∈ L) : Src P L (Rep.slice T) (.slice (some ⟨b, 0, none⟩) 1 c') [y] :=
  Src.blk (l := [y]) hp (fun u hu => by simp at hu; subst hu; rfl) fun _ _ H => rows_one_sl hm H
/-- A literal of one slice, as a slice of our own. -/
theorem Buf.lit1 {b : Nat} {e : TypeId} {y : List α} (hp : Pick (Blk b e [.slice a m c]) L L1) (hm : Sl T a m c y ∈ L) : Ent L (Buf (Rep.slice T) e (some ⟨b, 0, none⟩) 1 1 [y] :: L1) :=
  Buf.of_els (l := [y]) hp rfl rfl (by decide) fun _ _ H => rows_one_sl hm H
theorem V.loadTri {n : Nat} {κ : World} {al : List (Nat × Value)} {o : Oper} {T' j e : Nat} {x : Operand} {ts : List Tri} {a1 : Option Addr} {m1 c1 : Nat} (ho : o.op = .load T' x) (hT : One P T') (hx : ev al x = some (eptr a (j * RTri.sz))) (hp : Pick (Buf RTri e a m c ts) L L1) (hy : ts[j]? = some (a1, m1, c1)) : OpV P n κ al L o (.slice a1 m1 c1) := V.loadBufSc (val := tv) (ok := fun _ => True) (h1 := fun _ => rfl) (y := (a1, m1, c1)) ho hT hx hp hy
end
end Go.Wk
namespace Go.Wk
section
variable {P : Program} {f : FuncId} {n : Nat} {κ : World} {K : Post} {k : List Item} {al : List (Nat × Value)} {L L1 : List Assn} {o : Oper} {α : Type} {T : Rep α} {a : Option Addr} {m c : Nat} {l : List α}
theorem V.sliceTo {T' E sz hi : Nat} {x : Operand} {z : Option Operand} (ho : o.op = .slice T' x none z none) (hT : SliceTy P T' E sz) (hx : ev al x = some (.slice a m c)) (hhi : BoundOf al z m hi) (h2 : hi ≤ c) : OpV P n κ al L o (.slice a hi c) := V.of_run fun a' w he => by
  obtain ⟨ti, h5, h6, rfl⟩ := hT
  have hb := run_sliceBounds (P := P) he (b := true) (len := m) (cap := c) (x := none) (lo := 0) rfl hhi (by omega) h2 w
  have hadd : a.map (fun x : Addr => x.add 0) = a := by
    cases a with
    | none => rfl
    | some ad => simp [Addr.add]
  simp only [Option.map_none] at hb
  simp [execOp, ho, Instr.sliceAt, Instr.slice, he.ev hx, run_underlying h5, hb, run_sizeOf_info h6]
  intro _
  exact hadd
theorem SG.elemDt {sz : Nat} {g : α → List Value} {ok : α → Prop} {hl0 : ∀ x, ok x → (g x).length = sz} {h10 : ∀ x, ∀ u ∈ g x, u.oneCell' = true} {j : Nat} {y : α} (hm : Sl (Rep.dt sz g ok hl0 h10) a m c l ∈ L) (hy : l[j]? = some y) (h : ok y → SG P f n κ K k al (At a (j * sz) (g y) :: L)) : SG P f n κ K k al L := fun a' w he ⟨s, z, hh, d1, d2, d3, H⟩ => by
  obtain ⟨_, _, z1, hz1, _, _, _, hr, _⟩ := Pick.ro hm z hh H
  obtain ⟨us, ⟨g1, g1'⟩, g2, g3⟩ := (hr.mono hz1).elem hy
  subst g1
  exact h g1' a' w he ⟨s, z, hh, d1, d2, d3, Holds.add_ro g3 H⟩
end
end Go.Wk
namespace Go.Wk
section
variable {P : Program} {f : FuncId} {n : Nat} {κ : World} {K : Post} {k : List Item} {al : List (Nat × Value)} {L L1 : List Assn} {α : Type} {T : Rep α} {a : Option Addr} {m c : Nat} {l : List α}
/-- The slice nil. -/
theorem Sl.nil : Ent L (Sl T none 0 0 [] :: L) := fun _ _ H => Holds.add_ro ⟨rfl, Nat.le_refl _, by omega, .inl rfl⟩ H
theorem Buf.lit1' {b : Nat} {e : TypeId} {us : List Value} {y : α} (hp : Pick (Blk b e us) L L1) (hl : us.length = T.sz) (hr : ∀ z, T.rep z us y) : Ent L (Buf T e (some ⟨b, 0, none⟩) 1 1 [y] :: L1) :=
  Buf.of_els (l := [y]) hp (by simpa using hl) rfl (by decide) fun z _ _ => Rep.rows.single (hr z)
theorem SG.elemR {j : Nat} {y : α} {ι : Type} {p : ι → Prop} {us : ι → List Value} {R : ι → List (Frag → Prop)} (hm : Sl T a m c l ∈ L) (hy : l[j]? = some y) (hR : ∀ z cs, T.rep z cs y → ∃ i, p i ∧ cs = us i ∧ ∀ r ∈ R i, r z)
    (h : ∀ i, p i → SG P f n κ K k al ((R i).map ro ++ At a (j * T.sz) (us i) :: L)) : SG P f n κ K k al L := fun a' w he ⟨s, z, hh, d1, d2, d3, H⟩ => by
  obtain ⟨_, _, z1, hz1, _, _, _, hr, _⟩ := Pick.ro hm z hh H
  obtain ⟨cs, g1, _, g3⟩ := (hr.mono hz1).elem hy
  obtain ⟨i, hi, rfl, hri⟩ := hR z cs g1
  refine h i hi a' w he ⟨s, z, hh, d1, d2, d3, ?_⟩
  have H2 := Holds.add_ro (R := fun z => ∃ b o, a = some ⟨b, o, none⟩ ∧ Row z b (o + j * T.sz) (us i)) g3 H
  generalize R i = rs at *
  induction rs with
  | nil => exact H2
  | cons r rs ih => exact Holds.add_ro (hri r (List.mem_cons_self ..)) (ih (fun r' h' => hri r' (List.mem_cons_of_mem _ h')))
end
end Go.Wk
namespace Go.Wk
section
variable {P : Program} {n : Nat} {κ : World} {al : List (Nat × Value)} {L L1 : List Assn} {o : Oper} {a : Option Addr} {m c : Nat} {e : TypeId}
/-- copy into a slice of bytes of our own. -/
theorem E.copyBuf {dT E : TypeId} {x y : Operand} {xs : Array Operand} {ts : Array TypeId} {yv : Value} {l l2 : List UInt8} (ho : o.op = .call ⟨.builtin .copy, xs, ts⟩) (hxs : xs = #[x, y]) (hts : ts[0]? = some dT) (hdT : ElemTy P dT E 1 1) (hx : ev al x = some (.slice a m c)) (hy : ev al y = some yv)
    (hp : Pick (Buf R8 e a m c l) L L1) (hsrc : Src P L R8 yv l2) :
    OpE P n κ al L o fun v M => v = vI (min l2.length m : Nat) ∧ M = Buf R8 e a m c (l2.take (min l2.length m) ++ l.drop (min l2.length m)) :: L1 := OpE.of_run fun a' w he hs => by
  subst hxs
  have hs0 := hs
  obtain ⟨s0, z, h, d1, d2, d3, H⟩ := hs
  obtain ⟨cs2, hrows2, hone, hread⟩ := hsrc z h H
  obtain ⟨hfirst, hlen⟩ := hread w d2 d3
  obtain ⟨rfl, _⟩ := rows_sc.1 hrows2
  have hs2 := hs0.ent hp
  obtain ⟨g1, g2, g3⟩ := hs2.buf Pick.here
  obtain ⟨ti, z2, t1, t2, t3, _, _, _⟩ := hdT
  generalize hkdef : min l2.length m = k
  have hk1 : k ≤ l2.length := by omega
  have hk2 : k ≤ m := by omega
  have hf := hfirst k hk1
  simp only [show R8.sz = 1 from rfl, Nat.mul_one] at hf
  have hmin : Nat.min l2.length m = k := hkdef
  have hx' := he.ev hx
  rcases hs2.open_buf with ⟨rfl, rfl, rfl, rfl⟩ | ⟨b, pre, cs, rest, fz, rfl, hfz, hl, hcs, hsF⟩
  · have hk0 : k = 0 := by omega
    subst hk0
    refine ⟨_, w, _, .inl ?_, ⟨rfl, rfl⟩, by simpa using hs2⟩
    simp [execOp, ho, hts, resolve, invoke, builtin, Builtin.copy_, hx', he.ev hy, run_underlying t1, hlen, run_sizeOf_info t2, t3, hf, goInt]
  · obtain ⟨zz, hz, hrows⟩ := hsF.get_ro (R := fun z => R8.rows z cs l) (.tail _ (.head _))
    obtain ⟨rfl, _⟩ := rows_sc.1 hrows
    have hll : l.length = m := g1
    have hul : ((l2.map v8).take k).length = k := by simp; omega
    obtain ⟨w', hst, hsys, hb', hk'⟩ := run_storeCells_row (P := P) ((l2.map v8).take k) pre.length (pre ++ (l.map v8 ++ rest)) w hsF.blkF (fun q h1 h2 => hfz q (by omega) (by simp; omega)) (by simp only [List.length_append, hul, List.length_map]; omega) (fun u hu => hone u (List.mem_of_mem_take hu)) pre.length 0 (by omega)
    have hset : setAt (pre ++ (l.map v8 ++ rest)) pre.length ((l2.map v8).take k) = pre ++ ((l2.take k ++ l.drop k).map v8 ++ rest) := by
      have := setAt_mid ((l2.map v8).take k) pre ((l.map v8).take k) ((l.map v8).drop k ++ rest) (by simp; omega)
      rw [List.append_assoc pre, ← List.append_assoc ((l.map v8).take k), List.take_append_drop] at this
      rw [this]
      simp [List.map_append, List.map_take, List.map_drop]
    rw [hset] at hb'
    have hs3 := hsF.changeF hsys hb' hk'
    refine ⟨_, w', _, .inl ?_, ⟨rfl, rfl⟩, ?_⟩
    · simp [execOp, ho, hts, resolve, invoke, builtin, Builtin.copy_, hx', he.ev hy, run_underlying t1, hlen, run_sizeOf_info t2, t3, hmin, hf, hst, goInt]
    · refine hs3.ent (Ent.trans (Ent.frame _ (?_ : Ent _ (ro (fun z => R8.rows z ((l2.take k ++ l.drop k).map v8) (l2.take k ++ l.drop k)) :: L1))) (Buf.closeO (by simp; omega) g2 g3 (fun i hp hi => hfz i hp ?_) ?_))
      · rintro z h ⟨h1, h2, z1, f1, f2, f3, f4, q, H'⟩
        exact Holds.add_ro (rows_sc.2 ⟨rfl, fun _ _ => trivial⟩) (Holds.mono (Frag.le.refl _) f4 H')
      · simp only [List.length_append, List.length_take, List.length_drop, List.length_map] at hi ⊢; omega
      · rw [← hl]; simp only [List.length_append, List.length_take, List.length_drop, List.length_map]; omega
end
end Go.Wk
