/- Literals of two elements of several cells; blocks of several elements as slices. -/
import Derived.Test.YtilcnglcflohoaaRead
namespace Go.Wk
section
variable {P : Program} {f : FuncId} {n : Nat} {κ : World} {K : Post} {k : List Item} {al : List (Nat × Value)} {L L1 : List Assn} {o : Oper} {α : Type} {T : Rep α} {a : Option Addr} {m c : Nat} {l : List α} {e : TypeId}
theorem E.lit2 {T' E0 sz : Nat} {x y : Operand} {u v : Value} {zE : List Value} (us vs : List Value) (ho : o.op = .buildSlice T' 2 #[(0, x), (1, y)]) (hT : SliceTy P T' E0 sz) (hz : Zero P E0 zE) (hlen : zE.length = sz) (hsz : 0 < sz) (h24 : 2 * sz ≤ 16777216) (hx : ev al x = some u) (hu : u.cells = us.toArray) (hul : us.length = sz) (hy : ev al y = some v) (hv : v.cells = vs.toArray) (hvl : vs.length = sz) :
    OpE P n κ al L o fun v M => ∃ b, v = .slice (some ⟨b, 0, none⟩) 2 2 ∧ M = Blk b E0 (us ++ vs) :: L := by
  have hs : ∃ i, P.info? E0 = some i ∧ i.size = sz := let ⟨i, _, a, b⟩ := hT; ⟨i, a, b⟩
  refine E.buildSlice (sz := sz) [(0, us), (1, vs)] ho hT (bl_of hz hs hlen rfl hsz) hsz h24 (by omega) ⟨rfl, ⟨u, hx, hu⟩, rfl, ⟨v, hy, hv⟩, trivial⟩ ?_
  have := fillL_full (sz := sz) [us, vs] 0 [] ((List.range (2 * sz)).map fun j => zE.getD (j % sz) undef) (by simp) (by simp) (by simp [hul, hvl])
  simpa [enumQ] using this
/-- A block of elements as a slice of our own. -/
theorem Buf.of_els {b : Nat} {cs : List Value} (hp : Pick (Blk b e cs) L L1) (hc : cs.length = m * T.sz) (hl : l.length = m) (hb : m ≤ 9223372036854775807) (hR : ∀ z h, Holds z L h → T.rows z cs l) : Ent L (Buf T e (some ⟨b, 0, none⟩) m m l :: L1) := fun z h H => by
  have hr := hR z h H
  obtain ⟨h1, h2, z1, g1, g2, g3, g4, g5, g6⟩ := hp z h H
  exact ⟨h1, h2, z, Frag.le.refl _, g2, g3, g4, ⟨hl, Nat.le_refl _, hb, .inr ⟨b, [], cs, [], (0, 0), rfl, by simpa [Blk] using g5, fun i _ _ => by omega, hr, by simpa using hc⟩⟩, g6⟩
theorem Holds.rd {z h : Frag} {us : List Value} {x : α} (hm : Rd T us x ∈ L) (H : Holds z L h) : T.rep z us x := by
  obtain ⟨_, _, z1, hz, _, _, _, hr, _⟩ := Pick.ro hm z h H
  exact T.mono hz hr
theorem rows_two {z h : Frag} {us vs : List Value} {x y : α} (hx : Rd T us x ∈ L) (hy : Rd T vs y ∈ L) (H : Holds z L h) : T.rows z (us ++ vs) [x, y] :=
  Rep.rows.append (l := [x]) (l' := [y]) (Rep.rows.single (H.rd hx)) (Rep.rows.single (H.rd hy))
end
end Go.Wk
