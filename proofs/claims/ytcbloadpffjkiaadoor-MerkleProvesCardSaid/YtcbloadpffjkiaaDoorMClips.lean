/- Slices that are clipped, and what is appended to them; arrays of bytes. -/
import Derived.Test.YtcbloadpffjkiaaDoorKernB
namespace Go.Wk
section
variable {P : Program} {n : Nat} {κ : World} {al : List (Nat × Value)} {L L1 : List Assn} {o : Oper} {v : Value} {α : Type} {T : Rep α} {a : Option Addr} {m c : Nat} {l l' : List α} {e : TypeId}
theorem cutA_zero (a : Option Addr) (sz c : Nat) : cutA a 0 sz c = a := by
  unfold cutA
  split
  · rfl
  · cases a with
    | none => rfl
    | some p => simp only [Option.map_some, Nat.zero_mul]; unfold Addr.add; simp
theorem Sl.clip (hm : Sl T a m c l ∈ L) : Ent L (Sl T a m m l :: L) :=
  Ent.ro_mk hm fun _ ⟨h1, h2, h3, h4⟩ => ⟨h1, Nat.le_refl _, by omega, h4⟩
/-- A slice's first m, with room for no more. -/
theorem E.clip {T' E : Nat} {x y y' : Operand} {k k' : IntKind} {i i' : Int} (ho : o.op = .slice T' x none (some y) (some y')) (hT : SliceTy P T' E T.sz) (hx : ev al x = some (.slice a m c)) (hm : Sl T a m c l ∈ L) (hy : ev al y = some (.int k i)) (hi : i = (m : Int)) (hy' : ev al y' = some (.int k' i')) (hi' : i' = (m : Int)) :
    OpE P n κ al L o fun v M => v = .slice a m m ∧ M = Sl T a m m l :: L := OpE.of_run fun a' w he hs => by
  obtain ⟨_, _, _, g2, _⟩ := hs.sl hm
  obtain ⟨ti, h5, h6, h7⟩ := hT
  subst hi; subst hi'
  refine ⟨_, w, _, .inl ?_, ⟨rfl, rfl⟩, hs.ent (Sl.clip hm)⟩
  have hc := cutA_zero a ti.size m
  unfold cutA at hc
  simp [execOp, ho, Instr.sliceAt, Instr.slice, Instr.sliceBounds, he.ev hx, he.ev hy, he.ev hy', run_underlying h5, run_sliceBound g2, run_sliceBound (Nat.le_refl m), run_sizeOf_info h6]
  simpa using hc
/-- append to a slice that is not ours and has no room. -/
theorem sep_appendS {T1 T2 ty bytes : Nat} {xv : Value} {w : World} (hsz : 0 < T.sz) (hT : ElemTy P T1 e T.sz bytes) (hT2 : NoInt P T2)
    (hm : Sl T a m m l ∈ L) (hsrc : Src P L T xv l') (h0 : 0 < l'.length) (h47 : (m + l'.length) * bytes ≤ 140737488355328) (h63 : m + l'.length ≤ 9223372036854775807) (hs : Sep κ w L) :
    ∃ a' c' w', (Builtin.append_ #[T1, T2] ty #[.slice a m m, xv]).run P w = .ok (.slice a' (m + l'.length) c') w' ∧ Sep κ w' (Buf T e a' (m + l'.length) c' (l ++ l') :: L) := by
  obtain ⟨s, z, h, d1, d2, d3, H⟩ := hs
  obtain ⟨cs2, hrows2, hone, hread⟩ := hsrc z h H
  obtain ⟨hfirst, hlen⟩ := hread w d2 d3
  obtain ⟨hfirst', _⟩ := hread w.drew d2 d3
  obtain ⟨cs, hrows, hone1, hread1⟩ := Src.sl (P := P) hsz hm z h H
  obtain ⟨hold, _⟩ := hread1 w.drew d2 d3
  have hs : Sep κ w L := ⟨s, z, h, d1, d2, d3, H⟩
  obtain ⟨_, _, hlm, _, hc63, _⟩ := hs.sl hm
  have hl2 : cs2.length = l'.length * T.sz := hrows2.1
  have hcl : cs.length = l.length * T.sz := hrows.1
  have hf2 := hfirst' l'.length (Nat.le_refl _)
  rw [← hl2, List.take_length] at hf2
  have hof := hold l.length (Nat.le_refl _)
  rw [← hcl, List.take_length, hlm] at hof
  have hsep : Sep κ w (ro (fun z => T.rows z cs l) :: ro (fun z => T.rows z cs2 l') :: L) :=
    ⟨s, z, h, d1, d2, d3, Holds.add_ro hrows (Holds.add_ro hrows2 H)⟩
  obtain ⟨zs, hzs, hr⟩ := run_append_more (P := P) (ty := ty) (c := m) hT hT2 hlen hf2 hof (by omega) h47 h63
  have hge := grownCap_ge w (m + l'.length) m e
  have hle := grownCap_le_maxLen w (m + l'.length) m e (by unfold maxLen; omega)
  generalize hC : grownCap w (m + l'.length) m e = C at *
  generalize hR : (Builtin.zeroCells zs (C - (m + l'.length))).toList = rest
  have hrl : rest.length = (C - (m + l'.length)) * T.sz := by rw [← hR]; simp [size_zeroCells', hzs]
  refine ⟨_, _, _, hr, ?_⟩
  have hs3 : Sep κ w.drew (ro (fun z => T.rows z cs l) :: ro (fun z => T.rows z cs2 l') :: L) := hsep.drew _
  have hs4 := hs3.new (A := BlkF w.heap.size e ((cs ++ cs2) ++ rest) (0, 0)) (o := .cells ((cs ++ cs2) ++ rest).toArray e (0, 0)) (fun _ => by show Frag.one w.heap.size _ w.heap.size = some _; simp [Frag.one])
  have hcells : (cs.toArray ++ cs2.toArray ++ Builtin.zeroCells zs (C - (m + l'.length))) = ((cs ++ cs2) ++ rest).toArray := by
    apply Array.ext'; simp [← hR]
  rw [hcells]
  refine hs4.ent ?_
  refine Ent.trans (Ent.frame _ (?_ : Ent _ (ro (fun z => T.rows z (cs ++ cs2) (l ++ l')) :: L))) (Buf.close (by simp [hlm]) hge (by simpa [maxLen] using hle) (fun i _ => by omega) ?_)
  · rintro z h ⟨h1, h2, z1, g1, g2, g3, g4, q, h3, h4, z2, g1', g2', g3', g4', q', H'⟩
    exact Holds.add_ro (Rep.rows.append (q.mono g1) (q'.mono g1')) (Holds.mono (Frag.le.refl _) (g4'.trans g4) H')
  · simp only [List.length_append, hcl, hl2, hrl, hlm]
    rw [← Nat.add_mul, ← Nat.add_mul]; congr 1; omega
theorem E.appendS {T1 T2 bytes : Nat} {xs : Array Operand} {ts : Array TypeId} {sx xx : Operand} {xv : Value} (hsz : 0 < T.sz) (ho : o.op = .call ⟨.builtin .append, xs, ts⟩) (hxs : xs = #[sx, xx]) (hts : ts = #[T1, T2]) (hT : ElemTy P T1 e T.sz bytes) (hT2 : NoInt P T2)
    (hx : ev al sx = some (.slice a m m)) (hy : ev al xx = some xv) (hm : Sl T a m m l ∈ L) (hsrc : Src P L T xv l') (h0 : 0 < l'.length) (h47 : (m + l'.length) * bytes ≤ 140737488355328) (h63 : m + l'.length ≤ 9223372036854775807) :
    OpE P n κ al L o fun v M => ∃ a' c', v = .slice a' (m + l'.length) c' ∧ M = Buf T e a' (m + l'.length) c' (l ++ l') :: L := OpE.of_run fun a' w he hs => by
  subst hxs; subst hts
  obtain ⟨a2, c2, w', hr, hs'⟩ := sep_appendS (ty := o.type) hsz hT hT2 hm hsrc h0 h47 h63 hs
  refine ⟨_, w', _, .inl ?_, ⟨a2, c2, rfl, rfl⟩, hs'⟩
  simp [execOp, ho, resolve, invoke, builtin, he.ev hx, he.ev hy, hr]
/-- What lies in a slice of arrays has their length. -/
theorem Sep.slArr {k : Nat} {w : World} {l : List (List UInt8)} (hs : Sep κ w L) (hm : Sl (RArr8 k) a m c l ∈ L) : ∀ x ∈ l, x.length = k := by
  obtain ⟨z, _, k1, _, _, k4⟩ := hs.sl hm
  intro x hx
  obtain ⟨j, hj⟩ := List.getElem?_of_mem hx
  have hjl := (List.getElem?_eq_some_iff.1 hj).1
  rcases k4 with k4 | ⟨b, off, cs, _, _, hr⟩
  · omega
  · exact (hr.2 j x hj).2
theorem B.shl1 {P : Program} {k' : IntKind} {k : Nat} (hk : k ≤ 40) : BinRun P .shl (vI 1) (.int k' (k : Int)) (vI ((2 ^ k : Nat) : Int)) := by
  have h := B.shl (P := P) (k := .i64) (k' := k') (x := 1) (y := (k : Int)) (by omega)
  have e : IntKind.i64.wrap (1 * 2 ^ (min ((k : Int)).toNat IntKind.i64.bits)) = ((2 ^ k : Nat) : Int) := by
    have h2 : 2 ^ k ≤ 2 ^ 40 := Nat.pow_le_pow_right (by decide) hk
    have h3 : min ((k : Int)).toNat IntKind.i64.bits = k := by simp [IntKind.bits]; omega
    rw [h3, Int.one_mul]
    have h4 : (2 : Int) ^ k = ((2 ^ k : Nat) : Int) := by simp
    rw [h4]
    generalize 2 ^ k = q at h2 ⊢
    simp [IntKind.wrap, IntKind.bits, IntKind.signed]; omega
  rwa [e] at h
end
end Go.Wk
