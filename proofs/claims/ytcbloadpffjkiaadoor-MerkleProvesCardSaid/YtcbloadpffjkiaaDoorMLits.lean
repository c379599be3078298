/- Literals of several hash values. -/
import Derived.Test.YtcbloadpffjkiaaDoorKernB
namespace Go.Wk
section
variable {P : Program} {n : Nat} {κ : World} {K K' : Post} {al : List (Nat × Value)} {L L1 : List Assn} {o : Oper} {v : Value} {k : Nat}
theorem OpE.imp (h : OpE P n κ al L o K) (hK : ∀ v M, K v M → ∃ M', K' v M' ∧ ∀ w, Sep κ w M → Sep κ w M') : OpE P n κ al L o K' := fun a w he hs =>
  Oper.wp_imp (fun _ _ ⟨v, e, M, q, s⟩ => let ⟨M', q', f⟩ := hK v M q; ⟨v, e, M', q', f _ s⟩) (fun _ _ _ h => h) (h a w he hs)
theorem Ent.litA {b e m : Nat} {cs : List Value} {l : List (List UInt8)} (hl : l.length = m) (hc : cs.length = m * k) (hb : m ≤ 9223372036854775807) (hR : ∀ z, (RArr8 k).rows z cs l) : ∀ w, Sep κ w (Blk b e cs :: L) → Sep κ w (Sl (RArr8 k) (some ⟨b, 0, none⟩) m m l :: L) :=
  fun w hs => Buf.publish (L1 := L) (fun h => h) w (hs.ent (Buf.of_els (T := RArr8 k) Pick.here hc hl hb fun z _ _ => hR z))
theorem rowA {z : Frag} {x : List UInt8} (h : x.length = k) : (RArr8 k).rows z (x.map v8) [x] := Rep.rows.single ⟨rfl, h⟩
theorem E.litA1 {T' E0 : Nat} {p : Operand} {zE : List Value} (x : List UInt8) (ho : o.op = .buildSlice T' 1 #[(0, p)]) (hT : SliceTy P T' E0 k) (hz : Zero P E0 zE) (hlen : zE.length = k) (hsz : 0 < k) (h24 : k ≤ 16777216) (hx : ev al p = some (.agg (x.map v8).toArray)) (hxl : x.length = k) :
    OpE P n κ al L o fun v M => ∃ b, v = .slice (some ⟨b, 0, none⟩) 1 1 ∧ M = Sl (RArr8 k) (some ⟨b, 0, none⟩) 1 1 [x] :: L :=
  (E.lit1 (x.map v8) ho hT hz hlen hsz h24 hx rfl (by simpa using hxl)).imp fun _ _ ⟨b, e1, e2⟩ => ⟨_, ⟨b, e1, rfl⟩, e2 ▸ Ent.litA rfl (by simpa using hxl) (by decide) fun _ => rowA hxl⟩
theorem E.litA2 {T' E0 : Nat} {p q : Operand} {zE : List Value} (x y : List UInt8) (ho : o.op = .buildSlice T' 2 #[(0, p), (1, q)]) (hT : SliceTy P T' E0 k) (hz : Zero P E0 zE) (hlen : zE.length = k) (hsz : 0 < k) (h24 : 2 * k ≤ 16777216) (hx : ev al p = some (.agg (x.map v8).toArray)) (hxl : x.length = k) (hy : ev al q = some (.agg (y.map v8).toArray)) (hyl : y.length = k) :
    OpE P n κ al L o fun v M => ∃ b, v = .slice (some ⟨b, 0, none⟩) 2 2 ∧ M = Sl (RArr8 k) (some ⟨b, 0, none⟩) 2 2 [x, y] :: L :=
  (E.lit2 (x.map v8) (y.map v8) ho hT hz hlen hsz h24 hx rfl (by simpa using hxl) hy rfl (by simpa using hyl)).imp fun _ _ ⟨b, e1, e2⟩ => ⟨_, ⟨b, e1, rfl⟩, e2 ▸ Ent.litA rfl (by simp; omega) (by decide) fun _ => Rep.rows.append (l := [x]) (l' := [y]) (rowA hxl) (rowA hyl)⟩
theorem E.lit3 {T' E0 sz : Nat} {x y t : Operand} {u v u' : Value} {zE : List Value} (us vs ws : List Value) (ho : o.op = .buildSlice T' 3 #[(0, x), (1, y), (2, t)]) (hT : SliceTy P T' E0 sz) (hz : Zero P E0 zE) (hlen : zE.length = sz) (hsz : 0 < sz) (h24 : 3 * sz ≤ 16777216) (hx : ev al x = some u) (hu : u.cells = us.toArray) (hul : us.length = sz) (hy : ev al y = some v) (hv : v.cells = vs.toArray) (hvl : vs.length = sz) (ht : ev al t = some u') (hw : u'.cells = ws.toArray) (hwl : ws.length = sz) :
    OpE P n κ al L o fun v M => ∃ b, v = .slice (some ⟨b, 0, none⟩) 3 3 ∧ M = Blk b E0 (us ++ (vs ++ ws)) :: L := by
  have hs : ∃ i, P.info? E0 = some i ∧ i.size = sz := let ⟨i, _, a, b⟩ := hT; ⟨i, a, b⟩
  refine E.buildSlice (sz := sz) [(0, us), (1, vs), (2, ws)] ho hT (bl_of hz hs hlen rfl hsz) hsz h24 (by omega) ⟨rfl, ⟨u, hx, hu⟩, rfl, ⟨v, hy, hv⟩, rfl, ⟨u', ht, hw⟩, trivial⟩ ?_
  have := fillL_full (sz := sz) [us, vs, ws] 0 [] ((List.range (3 * sz)).map fun j => zE.getD (j % sz) undef) (by simp) (by simp) (by simp [hul, hvl, hwl])
  simpa [enumQ] using this
theorem E.litA3 {T' E0 : Nat} {p q r : Operand} {zE : List Value} (x y t : List UInt8) (ho : o.op = .buildSlice T' 3 #[(0, p), (1, q), (2, r)]) (hT : SliceTy P T' E0 k) (hz : Zero P E0 zE) (hlen : zE.length = k) (hsz : 0 < k) (h24 : 3 * k ≤ 16777216) (hx : ev al p = some (.agg (x.map v8).toArray)) (hxl : x.length = k) (hy : ev al q = some (.agg (y.map v8).toArray)) (hyl : y.length = k) (ht : ev al r = some (.agg (t.map v8).toArray)) (htl : t.length = k) :
    OpE P n κ al L o fun v M => ∃ b, v = .slice (some ⟨b, 0, none⟩) 3 3 ∧ M = Sl (RArr8 k) (some ⟨b, 0, none⟩) 3 3 [x, y, t] :: L :=
  (E.lit3 (x.map v8) (y.map v8) (t.map v8) ho hT hz hlen hsz h24 hx rfl (by simpa using hxl) hy rfl (by simpa using hyl) ht rfl (by simpa using htl)).imp fun _ _ ⟨b, e1, e2⟩ => ⟨_, ⟨b, e1, rfl⟩, e2 ▸ Ent.litA rfl (by simp; omega) (by decide) fun _ => Rep.rows.append (l := [x]) (l' := [y, t]) (rowA hxl) (Rep.rows.append (l := [y]) (l' := [t]) (rowA hyl) (rowA htl))⟩
end
end Go.Wk
