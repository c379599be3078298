/- The rules, merged. -/
import Derived.Test.YtcbloadpffjkiaaDoorKernA
import Derived.MapKept
import Derived.Laws.IdiomRangeMap
import Derived.ChangeKeysEq
import Derived.Laws.StructEq
import Derived.SizedLaws
import Derived.Laws.RangeString
import Derived.Laws.Runes
import Derived.Sort.Grow
import Derived.Deep.Draws
namespace Go.Wk
section
variable {P : Program} {f : FuncId} {n : Nat} {κ : World} {K : Post} {k : List Item} {al : List (Nat × Value)} {L L1 : List Assn} {o : Oper} {α : Type} {T : Rep α} {a : Option Addr} {m c : Nat} {l : List α} {e : TypeId}
theorem E.lit2 {T' E0 sz : Nat} {x y : Operand} {u v : Value} {zE : List Value} (us vs : List Value) (ho : o.op = .buildSlice T' 2 #[(0, x), (1, y)]) (hT : SliceTy P T' E0 sz) (hz : Zero P E0 zE) (hlen : zE.length = sz) (hsz : 0 < sz) (h24 : 2 * sz ≤ 16777216) (hx : ev al x = some u) (hu : u.cells = us.toArray) (hul : us.length = sz) (hy : ev al y = some v) (hv : v.cells = vs.toArray) (hvl : vs.length = sz) :
    OpE P n κ al L o fun v M => ∃ b, v = .slice (some ⟨b, 0, none⟩) 2 2 ∧ M = Blk b E0 (us ++ vs) :: L := by
  have hs : ∃ i, P.info? E0 = some i ∧ i.size = sz := let ⟨i, _, a, b⟩ := hT; ⟨i, a, b⟩
  refine E.buildSlice (sz := sz) [(0, us), (1, vs)] ho hT (bl_of hz hs hlen rfl hsz) hsz h24 (by omega) ⟨rfl, ⟨u, hx, hu⟩, rfl, ⟨v, hy, hv⟩, trivial⟩ ?_
  have := fillL_full (sz := sz) [us, vs] 0 [] ((List.range (2 * sz)).map fun j => zE.getD (j % sz) undef) (by simp) (by simp) (by simp [hul, hvl])
  simpa [enumQ] using this
/-- A block of elements as a slice of our own. -/
theorem Buf.of_els {b : Nat} {cs : List Value} (hp : Pick (Blk b e cs) L L1) (hc : cs.length = m * T.sz) (hl : l.length = m) (hb : m ≤ 9223372036854775807) (hR : ∀ z h, Holds z L h → T.rows z cs l) : Ent L (Buf T e (some ⟨b, 0, none⟩) m m l :: L1) := fun z h H => by
  have hr := hR z h H
  obtain ⟨h1, h2, z1, g1, g2, g3, g4, g5, g6⟩ := hp z h H
  exact ⟨h1, h2, z, Frag.le.refl _, g2, g3, g4, ⟨hl, Nat.le_refl _, hb, .inr ⟨b, [], cs, [], (0, 0), rfl, by simpa [Blk] using g5, fun i _ _ => by omega, hr, by simpa using hc⟩⟩, g6⟩
theorem Holds.rd {z h : Frag} {us : List Value} {x : α} (hm : Rd T us x ∈ L) (H : Holds z L h) : T.rep z us x := by
  obtain ⟨_, _, z1, hz, _, _, _, hr, _⟩ := Pick.ro hm z h H
  exact T.mono hz hr
theorem rows_two {z h : Frag} {us vs : List Value} {x y : α} (hx : Rd T us x ∈ L) (hy : Rd T vs y ∈ L) (H : Holds z L h) : T.rows z (us ++ vs) [x, y] :=
  Rep.rows.append (l := [x]) (l' := [y]) (Rep.rows.single (H.rd hx)) (Rep.rows.single (H.rd hy))
end
end Go.Wk

namespace Go.Wk
section
variable {P : Program} {f : FuncId} {n : Nat} {κ : World} {K : Post} {k : List Item} {it : Item} {al : List (Nat × Value)} {L L1 : List Assn} {o : Oper} {α : Type} {T : Rep α} {a : Option Addr} {m c : Nat} {l : List α} {e : TypeId}
/-- Behind 'it', whichever way it took, one of these holds. -/
theorem SG.join {ι : Type} (alI : ι → List (Nat × Value)) (LI : ι → List Assn) (p : ι → Prop) (rest : ∀ i, p i → SG P f n κ K k (alI i) (LI i))
    (h : (∀ i, p i → SG P f n κ K k (alI i) (LI i)) → SG P f n κ K (it :: k) al L) : SG P f n κ K (it :: k) al L := h rest
theorem SG.join2 {it2 : Item} {ι : Type} (alI : ι → List (Nat × Value)) (LI : ι → List Assn) (p : ι → Prop) (rest : ∀ i, p i → SG P f n κ K k (alI i) (LI i))
    (h : (∀ i, p i → SG P f n κ K k (alI i) (LI i)) → SG P f n κ K (it :: it2 :: k) al L) : SG P f n κ K (it :: it2 :: k) al L := h rest
theorem SG.openSl {us : List Value} (hp : Pick (Rd (Rep.slice T) us l) L L1) (h : ∀ a m c, us = [.slice a m c] → SG P f n κ K k al (Sl T a m c l :: L1)) : SG P f n κ K k al L :=
  SG.roEx (ι := Option Addr × Nat × Nat) (p := fun x => us = [.slice x.1 x.2.1 x.2.2]) (R := fun x => SlP T x.1 x.2.1 x.2.2 l) hp (fun _ ⟨a, m, c, e, s⟩ => ⟨(a, m, c), e, s⟩) fun _ e => h _ _ _ e
theorem Holds.slr {z h : Frag} (hm : Sl T a m c l ∈ L) (H : Holds z L h) : (Rep.slice T).rep z [.slice a m c] l := by
  obtain ⟨_, _, z1, hz, _, _, _, hr, _⟩ := Pick.ro hm z h H
  exact ⟨a, m, c, rfl, hr.mono hz⟩
theorem rows_two_sl {z h : Frag} {a' : Option Addr} {m' c' : Nat} {l' : List α} (hx : Sl T a m c l ∈ L) (hy : Sl T a' m' c' l' ∈ L) (H : Holds z L h) : (Rep.slice T).rows z [.slice a m c, .slice a' m' c'] [l, l'] :=
  Rep.rows.append (l := [l]) (l' := [l']) (Rep.rows.single (H.slr hx)) (Rep.rows.single (H.slr hy))
theorem V.loadAt1 {T' k : Nat} {x : Operand} {u : Value} (ho : o.op = .load T' x) (hT : One P T') (hx : ev al x = some (eptr a k)) (hm : At a k [u] ∈ L) : OpV P n κ al L o u := fun a' w he hs => by
  obtain ⟨z, hz, b, off, rfl, hr⟩ := hs.get_ro hm
  have hcell := cell_of_row (i := 0) hz hr (u := u) rfl
  rw [Nat.add_zero] at hcell
  have hx' := he.ev hx
  simp [eptr, addr_add] at hx'
  simp [execOp, ho, hx', Instr.loadAt, Instr.sureAddr, loadVar, hT.agg w, hcell]
end
end Go.Wk

namespace Go.Wk
open Go.MapKept

/- 1. FAMILIES -/
theorem Ent.perm {L L' : List Assn} (h : L.Perm L') : Ent L L' := by
  induction h with
  | nil => exact Ent.refl _
  | cons x _ ih => exact Ent.frame x ih
  | swap x y l => exact Ent.swap y x l
  | trans _ _ h1 h2 => exact h1.trans h2
theorem perm_eraseIdx {α : Type} : ∀ {l : List α} {i : Nat} (h : i < l.length), (l[i] :: l.eraseIdx i).Perm l
  | _ :: _, 0, _ => List.Perm.refl _
  | x :: l, i + 1, h => (List.Perm.swap _ _ _).trans ((perm_eraseIdx (l := l) (i := i) (by simpa using h)).cons x)
theorem nodup_of_map {α β : Type} (f : α → β) : ∀ {l : List α}, (l.map f).Nodup → l.Nodup
  | [], _ => List.nodup_nil
  | x :: l, h => by
    rw [List.map_cons, List.nodup_cons] at h
    exact List.nodup_cons.2 ⟨fun hx => h.1 (List.mem_map_of_mem hx), nodup_of_map f h.2⟩
/-- f holds of each element, over memory of its own. -/
def Each {ι : Type} (f : ι → Assn) (l : List ι) : Assn := fun z h => Holds z (l.map f) h
section
variable {ι : Type} {f : ι → Assn} {l l' : List ι} {L L1 L' : List Assn} {x y : ι} {k : Nat}
theorem Each.open : Ent (Each f l :: L) (l.map f ++ L) := fun _ _ ⟨_, _, _, a, b, c, d, e, H⟩ => Holds.app b c d (Holds.mono a (Frag.le.refl _) e) H
theorem Each.close : Ent (l.map f ++ L) (Each f l :: L) := fun z _ H => by
  obtain ⟨ha, hb, g1, g2, g3, g4, g5⟩ := Holds.split H
  exact ⟨ha, hb, z, Frag.le.refl _, g1, g2, g3, g4, g5⟩
theorem Each.perm (h : l.Perm l') : Ent (Each f l :: L) (Each f l' :: L) := Each.open.trans (Ent.trans (Ent.perm ((h.map f).append_right L)) Each.close)
theorem Each.nil : Ent L (Each f [] :: L) := Each.close (l := [])
theorem Each.cons : Ent (f x :: Each f l :: L) (Each f (x :: l) :: L) := Ent.trans (Ent.frame _ Each.open) (Each.close (l := x :: l))
theorem Each.uncons : Ent (Each f (x :: l) :: L) (f x :: Each f l :: L) := Ent.trans (Each.open (l := x :: l)) (Ent.frame _ Each.close)
theorem Each.snoc : Ent (f x :: Each f l :: L) (Each f (l ++ [x]) :: L) := Each.cons.trans (Each.perm (List.perm_append_singleton x l).symm)
theorem Each.take (h : l[k]? = some x) : Ent (Each f l :: L) (f x :: Each f (l.eraseIdx k) :: L) := by
  obtain ⟨hk, rfl⟩ := List.getElem?_eq_some_iff.1 h
  exact (Each.perm (perm_eraseIdx hk).symm).trans Each.uncons
theorem perm_set (hk : k < l.length) : (y :: l.eraseIdx k).Perm (l.set k y) := by
  have h := perm_eraseIdx (l := l.set k y) (i := k) (by simpa using hk)
  rw [List.getElem_set_self, List.eraseIdx_set_eq] at h
  exact h
theorem Each.back (hk : k < l.length) : Ent (f y :: Each f (l.eraseIdx k) :: L) (Each f (l.set k y) :: L) := Each.cons.trans (Each.perm (perm_set hk))
theorem Each.back' (h : l[k]? = some x) : Ent (f x :: Each f (l.eraseIdx k) :: L) (Each f l :: L) := by
  obtain ⟨hk, rfl⟩ := List.getElem?_eq_some_iff.1 h
  have := Each.back (f := f) (L := L) (y := l[k]) hk
  rwa [List.set_getElem_self] at this
theorem Each.mono {g : ι → Assn} (h : ∀ x ∈ l, ∀ z h, f x z h → g x z h) : Ent (Each f l :: L) (Each g l :: L) := by
  rintro z hh ⟨h1, h2, z1, a, b, c, d, e, H⟩
  refine ⟨h1, h2, z1, a, b, c, d, ?_, H⟩
  clear a b c d H
  induction l generalizing h1 with
  | nil => trivial
  | cons x l ih =>
    obtain ⟨k1, k2, z2, a, b, c, d, e, f⟩ := e
    exact ⟨k1, k2, z2, a, b, c, d, h x (List.mem_cons_self ..) _ _ e, ih (fun y hy => h y (List.mem_cons_of_mem _ hy)) _ f⟩
theorem Pick.frame {A B : Assn} (h : Ent L (A :: L1)) : Pick A (B :: L) (B :: L1) := Pick.there h
end

/- 2. MAPS -/
def kv (x : Int × Value) : Value × Value := (vI x.1, x.2)
def mkv (e : MapEntry) : Value × Value := (e.key, e.val)
/-- A map at block b with these entries, in whatever order. -/
def Mp (b : Nat) (es : List (Int × Value)) : Assn := fun _ h => ∃ ms clock, h b = some (.map ms clock) ∧ Stamped ms clock ∧ (ms.toList.map mkv).Perm (es.map kv)
def mget (es : List (Int × Value)) (k : Int) : Option Value := (es.find? (fun x => x.1 = k)).map (·.2)
def mdel (es : List (Int × Value)) (k : Int) : List (Int × Value) := es.filter (fun x => x.1 ≠ k)
def mput (es : List (Int × Value)) (k : Int) (v : Value) : List (Int × Value) := (k, v) :: mdel es k

theorem kv_inj {x y : Int × Value} (h : kv x = kv y) : x = y := by
  obtain ⟨a, b⟩ := x; obtain ⟨c, d⟩ := y
  simp only [kv, Prod.mk.injEq, Value.int.injEq, true_and] at h
  rw [h.1, h.2]
theorem keys_perm {ms : List MapEntry} {es : List (Int × Value)} (h : (ms.map mkv).Perm (es.map kv)) : (ms.map (·.key)).Perm (es.map (fun x => vI x.1)) := by
  have := h.map Prod.fst
  simpa [List.map_map, Function.comp_def, mkv, kv] using this
theorem Mp.nodup {ms : Array MapEntry} {clock : Nat} {es : List (Int × Value)} (hs : Stamped ms clock) (h : (ms.toList.map mkv).Perm (es.map kv)) : (es.map (·.1)).Nodup := by
  have h1 := (keys_perm h).nodup_iff.1 hs.2.2
  have h2 : es.map (fun x => vI x.1) = (es.map (·.1)).map vI := by simp [List.map_map, Function.comp_def]
  rw [h2] at h1
  exact nodup_of_map _ h1
theorem mem_of_perm {ms : List MapEntry} {es : List (Int × Value)} (h : (ms.map mkv).Perm (es.map kv)) {e : MapEntry} (he : e ∈ ms) : ∃ x ∈ es, mkv e = kv x := by
  have := h.mem_iff.1 (List.mem_map_of_mem (f := mkv) he)
  obtain ⟨x, hx, e2⟩ := List.mem_map.1 this
  exact ⟨x, hx, e2.symm⟩
theorem mget_of_mem {es : List (Int × Value)} (hn : (es.map (·.1)).Nodup) {x : Int × Value} (hx : x ∈ es) : mget es x.1 = some x.2 := by
  induction es with
  | nil => cases hx
  | cons y es ih =>
    rw [List.map_cons, List.nodup_cons] at hn
    rcases List.mem_cons.1 hx with rfl | hx
    · simp [mget]
    · have hne : y.1 ≠ x.1 := fun e => hn.1 (e ▸ List.mem_map_of_mem hx)
      have := ih hn.2 hx
      simpa [mget, hne] using this
theorem mget_none {es : List (Int × Value)} {k : Int} (h : ∀ x ∈ es, x.1 ≠ k) : mget es k = none := by
  simp only [mget, Option.map_eq_none_iff, List.find?_eq_none]
  intro x hx; simpa using h x hx
theorem isKey_i64 {k : Int} : IsKey (.int .i64) (vI k) := rfl

/-- What looking for a key finds. -/
theorem find_mp {P : Program} {w : World} {kt : TypeId} {ms : Array MapEntry} {clock : Nat} {es : List (Int × Value)} (hk : P.underlying kt = some (.int .i64)) (hs : Stamped ms clock) (hp : (ms.toList.map mkv).Perm (es.map kv)) (k : Int) :
    (∀ x ∈ ms.toList, IsKey (.int .i64) x.key) ∧ (((Instr.findKey kt (vI k) ms.toList).run P w = .ok none w ∧ (∀ x ∈ ms.toList, x.key ≠ vI k) ∧ mget es k = none ∧ ∀ x ∈ es, x.1 ≠ k) ∨
      ∃ j e, (Instr.findKey kt (vI k) ms.toList).run P w = .ok (some (j, e.val)) w ∧ ms.toList[j]? = some e ∧ e.key = vI k ∧ mget es k = some e.val) := by
  have hks : ∀ x ∈ ms.toList, IsKey (.int .i64) x.key := fun x hx => by
    obtain ⟨y, _, e⟩ := mem_of_perm hp hx
    have : x.key = vI y.1 := congrArg Prod.fst e
    rw [this]; exact rfl
  refine ⟨hks, ?_⟩
  rcases findNow_spec (d := .int .i64) (k := vI k) rfl ms.toList 0 hks with ⟨h1, h2⟩ | ⟨j, e, h1, h2, h3⟩
  · have h4 : ∀ x ∈ es, x.1 ≠ k := fun x hx he => by
      have := hp.symm.mem_iff.1 (List.mem_map_of_mem (f := kv) hx)
      obtain ⟨m, hm, e⟩ := List.mem_map.1 this
      exact h2 m hm (by have := congrArg Prod.fst e; simpa [mkv, kv, he] using this)
    exact .inl ⟨run_findKey hk h1, h2, mget_none h4, h4⟩
  · refine .inr ⟨j, e, by simpa using run_findKey (w := w) hk h1, h2, h3, ?_⟩
    obtain ⟨x, hx, e2⟩ := mem_of_perm hp (List.mem_of_getElem? h2)
    have e3 : e.key = vI x.1 := congrArg Prod.fst e2
    have e4 : e.val = x.2 := congrArg Prod.snd e2
    rw [h3] at e3
    have : x.1 = k := by simpa using e3.symm
    rw [← this, e4]; exact mget_of_mem (Mp.nodup hs hp) hx

def MapTy (P : Program) (T V : TypeId) (zs : Value) : Prop := ∃ K i, P.underlying T = some (.map K V) ∧ P.underlying K = some (.int .i64) ∧ P.info? V = some i ∧ i.zero = some zs
section
variable {P : Program} {f : FuncId} {n : Nat} {κ : World} {K : Post} {k : List Item} {al : List (Nat × Value)} {L L1 : List Assn} {o : Oper} {T V : TypeId} {zv : Value} {b : Nat} {es : List (Int × Value)} {i : Int}

theorem Sep.mp {w : World} (hs : Sep κ w L) (hp : Pick (Mp b es) L L1) : ∃ ms clock, w.heap[b]? = some (.map ms clock) ∧ Stamped ms clock ∧ (ms.toList.map mkv).Perm (es.map kv) := by
  obtain ⟨_, z, x, a, bb, c, d⟩ := hs
  obtain ⟨h1, _, _, _, _, g, _, ⟨ms, clock, i, j⟩, _⟩ := hp z x d
  exact ⟨ms, clock, c b _ (g b _ i), j⟩
theorem Sep.mpNodup {w : World} (hs : Sep κ w L) (hp : Pick (Mp b es) L L1) : (es.map (·.1)).Nodup := by
  obtain ⟨ms, clock, _, h1, h2⟩ := hs.mp hp
  exact Mp.nodup h1 h2
theorem Sep.mpNew {w w' : World} {ms' : Array MapEntry} {clock' : Nat} {es' : List (Int × Value)} (hs : Sep κ w L) (hp : Pick (Mp b es) L L1) (hw : Sys w w') (hb : w'.heap[b]? = some (.map ms' clock')) (hk : ∀ k, k ≠ b → w'.heap[k]? = w.heap[k]?)
    (h1 : Stamped ms' clock') (h2 : (ms'.toList.map mkv).Perm (es'.map kv)) : Sep κ w' (Mp b es' :: L1) := by
  obtain ⟨ms, clock, h3, h4, h5⟩ := hs.mp hp
  obtain ⟨s, z, x, a, bb, c, d⟩ := hs
  -- name the block's content
  obtain ⟨hh1, hh2, z1, e1, e2, e3, e4, ⟨ms0, cl0, e5, _⟩, e6⟩ := hp z x d
  have hp' : Pick (fun _ h => h b = some (Obj.map ms0 cl0)) [fun z' h' => z' = z1 ∧ (h' b = some (Obj.map ms0 cl0))] [] := fun z h H => by
    obtain ⟨q1, q2, q3, q4, q5, q6, q7, ⟨_, q8⟩, q9⟩ := H
    exact ⟨q1, q2, q3, q4, q5, q6, q7, q8, q9⟩
  have hsep : Sep κ w ((fun _ h => h b = some (Obj.map ms0 cl0)) :: L1) := ⟨s, z, x, a, bb, c, hh1, hh2, z1, e1, e2, e3, e4, e5, e6⟩
  exact hsep.change (b := b) (o := .map ms0 cl0) (o' := .map ms' clock') Pick.here (fun _ _ hA => ⟨hA, fun h2' hb' _ => ⟨ms', clock', hb', h1, h2⟩⟩) hw hb hk

theorem E.makeMap {x : Option Operand} (ho : o.op = .makeMap T x) (hx : x = none) : OpE P n κ al L o fun v M => ∃ b, v = .map (some b) ∧ M = Mp b [] :: L := OpE.of_run fun a w he hs => by
  subst hx
  refine ⟨_, w.alloc (.map #[] 0), _, .inl ?_, ⟨w.heap.size, rfl, rfl⟩, hs.new (o := .map #[] 0) (fun _ => ⟨#[], 0, by simp [Frag.one], stamped_empty 0, by simp⟩)⟩
  simp [execOp, ho, Instr.makeMap]

theorem V.lookup {x y : Operand} (ho : o.op = .lookup T x y false) (hT : MapTy P T V zv) (hx : ev al x = some (.map (some b))) (hy : ev al y = some (vI i)) (hp : Pick (Mp b es) L L1) : OpV P n κ al L o ((mget es i).getD zv) := fun a w he hs => by
  obtain ⟨K, ti, h1, h2, h3, h4⟩ := hT
  obtain ⟨ms, clock, hb, hst, hpm⟩ := hs.mp hp
  obtain ⟨hks, hf⟩ := find_mp (w := w) h2 hst hpm i
  rcases hf with ⟨hr, _, hg, _⟩ | ⟨j, e, hr, _, _, hg⟩
  · rw [hg]
    simp [execOp, ho, Instr.lookup, he.ev hx, he.ev hy, run_underlying h1, MapKept.run_getObj_map hb, run_checkKey h2 isKey_i64, hr, zeroValue, typeInfo, h3, h4]
  · rw [hg]
    simp [execOp, ho, Instr.lookup, he.ev hx, he.ev hy, run_underlying h1, MapKept.run_getObj_map hb, run_checkKey h2 isKey_i64, hr]
theorem V.lookupOk {x y : Operand} (ho : o.op = .lookup T x y true) (hT : MapTy P T V zv) (hx : ev al x = some (.map (some b))) (hy : ev al y = some (vI i)) (hp : Pick (Mp b es) L L1) : OpV P n κ al L o (.tuple #[(mget es i).getD zv, .bool (mget es i).isSome]) := fun a w he hs => by
  obtain ⟨K, ti, h1, h2, h3, h4⟩ := hT
  obtain ⟨ms, clock, hb, hst, hpm⟩ := hs.mp hp
  obtain ⟨hks, hf⟩ := find_mp (w := w) h2 hst hpm i
  rcases hf with ⟨hr, _, hg, _⟩ | ⟨j, e, hr, _, _, hg⟩
  · rw [hg]
    simp [execOp, ho, Instr.lookup, he.ev hx, he.ev hy, run_underlying h1, MapKept.run_getObj_map hb, run_checkKey h2 isKey_i64, hr, zeroValue, typeInfo, h3, h4]
  · rw [hg]
    simp [execOp, ho, Instr.lookup, he.ev hx, he.ev hy, run_underlying h1, MapKept.run_getObj_map hb, run_checkKey h2 isKey_i64, hr]

theorem sys_set (w : World) (b : Nat) (o : Obj) : Sys w { w with heap := w.heap.setIfInBounds b o } := ⟨rfl, rfl, rfl⟩

theorem mdel_absent (h : ∀ x ∈ es, x.1 ≠ i) : mdel es i = es := by
  rw [mdel, List.filter_eq_self]; intro x hx; simpa using h x hx

theorem perm_del {ms : List MapEntry} {j : Nat} {e : MapEntry} (hp : (ms.map mkv).Perm (es.map kv)) (hn : (es.map (·.1)).Nodup) (hj : ms[j]? = some e) (hk : e.key = vI i) : ((ms.eraseIdx j).map mkv).Perm ((mdel es i).map kv) := by
  obtain ⟨hlt, rfl⟩ := List.getElem?_eq_some_iff.1 hj
  obtain ⟨x, hx, e2⟩ := mem_of_perm hp (List.getElem_mem hlt)
  have hx1 : x.1 = i := by
    have : ms[j].key = vI x.1 := congrArg Prod.fst e2
    rw [hk] at this; simpa using this.symm
  have h1 : (x :: mdel es i).Perm es := by
    subst hx1
    clear hp hj hk e2
    induction es with
    | nil => cases hx
    | cons y es ih =>
      rw [List.map_cons, List.nodup_cons] at hn
      rcases List.mem_cons.1 hx with rfl | hx
      · have : mdel (x :: es) x.1 = es := by
          simp only [mdel, List.filter_cons, ne_eq, not_true_eq_false, decide_false, Bool.false_eq_true, if_false]
          rw [List.filter_eq_self]
          intro z hz
          simp only [decide_eq_true_eq]
          exact fun e => hn.1 (e ▸ List.mem_map_of_mem hz)
        rw [this]
      · have hne : y.1 ≠ x.1 := fun e => hn.1 (e ▸ List.mem_map_of_mem hx)
        have : mdel (y :: es) x.1 = y :: mdel es x.1 := by simp [mdel, hne]
        rw [this]
        exact (List.Perm.swap _ _ _).trans ((ih hn.2 hx).cons y)
  have h2 : (mkv ms[j] :: (ms.eraseIdx j).map mkv).Perm (kv x :: (mdel es i).map kv) := by
    have := (perm_eraseIdx hlt).map mkv
    rw [List.map_cons] at this
    refine this.trans (hp.trans ?_)
    rw [← List.map_cons]
    exact (h1.map kv).symm
  rw [e2] at h2
  exact h2.cons_inv

theorem E.mapUpdate {x y u : Operand} {v : Value} (ho : o.op = .mapUpdate T x y u) (hT : MapTy P T V zv) (hx : ev al x = some (.map (some b))) (hy : ev al y = some (vI i)) (hu : ev al u = some v) (hp : Pick (Mp b es) L L1) :
    OpE P n κ al L o fun _ M => M = Mp b (mput es i v) :: L1 := OpE.of_run fun a w he hs => by
  obtain ⟨K, ti, h1, h2, h3, h4⟩ := hT
  obtain ⟨ms, clock, hb, hst, hpm⟩ := hs.mp hp
  have hn := Mp.nodup hst hpm
  obtain ⟨hks, hf⟩ := find_mp (w := w) h2 hst hpm i
  rcases hf with ⟨hr, hno, hg, hno2⟩ | ⟨j, e, hr, hj, hk, hg⟩
  · refine ⟨undef, _, _, .inr ⟨?_, rfl⟩, rfl, hs.mpNew (ms' := ms.push { key := vI i, val := v, born := clock }) (clock' := clock + 1) hp (sys_set w b _) (heap_set hb).1 (heap_set hb).2 (stamped_push hst hno) ?_⟩
    · simp [execOp, ho, Instr.mapUpdate, he.ev hx, he.ev hy, he.ev hu, run_underlying h1, MapKept.run_getObj_map hb, run_checkKey h2 isKey_i64, hr, run_setObj_map _ hb]
    · rw [mput, mdel_absent hno2]
      simp only [Array.toList_push, List.map_append, List.map_cons, List.map_nil]
      exact (List.perm_append_singleton _ _).trans (hpm.cons _)
  · have hj2 : ms[j]? = some e := by simpa using hj
    refine ⟨undef, _, _, .inr ⟨?_, rfl⟩, rfl, hs.mpNew (ms' := ms.modify j fun e => { e with key := vI i, val := v }) (clock' := clock) hp (sys_set w b _) (heap_set hb).1 (heap_set hb).2 (stamped_modify hst j _ (fun _ _ => rfl) (fun e' _ he' => ?_)) ?_⟩
    · simp [execOp, ho, Instr.mapUpdate, he.ev hx, he.ev hy, he.ev hu, run_underlying h1, MapKept.run_getObj_map hb, run_checkKey h2 isKey_i64, hr, hj2, hk, run_keyThatStays (d := .int .i64) (k := vI i) rfl, run_setObj_map _ hb]
    · rw [hj2] at he'; cases he'; exact hk.symm
    · have hd := perm_del hpm hn hj hk
      have hlt : j < ms.toList.length := (List.getElem?_eq_some_iff.1 hj).1
      have e1 : (ms.modify j fun e => { e with key := vI i, val := v }).toList = ms.toList.set j { e with key := vI i, val := v } := by
        rw [Array.toList_modify]
        apply List.ext_getElem?
        intro q
        rw [List.getElem?_modify, List.getElem?_set]
        by_cases hq : j = q
        · subst hq; rw [hj]; simpa using hlt
        · simp [hq]
      rw [e1, mput]
      have := (perm_set (l := ms.toList) (y := { e with key := vI i, val := v }) hlt).map mkv
      refine this.symm.trans ?_
      rw [List.map_cons, List.map_cons]
      exact hd.cons _

theorem E.delete {x y : Operand} {xs : Array Operand} {ts : Array TypeId} (ho : o.op = .call ⟨.builtin .delete, xs, ts⟩) (hxs : xs = #[x, y]) (hts : ts[0]? = some T) (hT : MapTy P T V zv) (hx : ev al x = some (.map (some b))) (hy : ev al y = some (vI i)) (hp : Pick (Mp b es) L L1) :
    OpE P n κ al L o fun v M => v = .tuple #[] ∧ M = Mp b (mdel es i) :: L1 := OpE.of_run fun a w he hs => by
  subst hxs
  obtain ⟨K, ti, h1, h2, h3, h4⟩ := hT
  obtain ⟨ms, clock, hb, hst, hpm⟩ := hs.mp hp
  have hn := Mp.nodup hst hpm
  obtain ⟨hks, hf⟩ := find_mp (w := w) h2 hst hpm i
  rcases hf with ⟨hr, hno, hg, hno2⟩ | ⟨j, e, hr, hj, hk, hg⟩
  · refine ⟨_, _, _, .inl ?_, ⟨rfl, rfl⟩, hs.mpNew (ms' := ms) (clock' := clock) hp (sys_set w b _) (heap_set hb).1 (heap_set hb).2 hst (by rw [mdel_absent hno2]; exact hpm)⟩
    simp [execOp, ho, hts, resolve, invoke, builtin, Builtin.delete_, he.ev hx, he.ev hy, run_underlying h1, MapKept.run_getObj_map hb, run_checkKey h2 isKey_i64, hr, run_setObj_map _ hb]
  · refine ⟨_, _, _, .inl ?_, ⟨rfl, rfl⟩, hs.mpNew (ms' := ms.eraseIdxIfInBounds j) (clock' := clock) hp (sys_set w b _) (heap_set hb).1 (heap_set hb).2 (stamped_erase hst j) ?_⟩
    · simp [execOp, ho, hts, resolve, invoke, builtin, Builtin.delete_, he.ev hx, he.ev hy, run_underlying h1, MapKept.run_getObj_map hb, run_checkKey h2 isKey_i64, hr, run_setObj_map _ hb]
    · have hlt : j < ms.size := by simpa using (List.getElem?_eq_some_iff.1 hj).1
      rw [Array.eraseIdxIfInBounds, dif_pos hlt, Array.toList_eraseIdx]
      exact perm_del hpm hn hj hk

theorem E.clearMap {x : Operand} {xs : Array Operand} {ts : Array TypeId} (ho : o.op = .call ⟨.builtin .clear, xs, ts⟩) (hxs : xs = #[x]) (hts : ts[0]? = some T) (hT : MapTy P T V zv) (hx : ev al x = some (.map (some b))) (hp : Pick (Mp b es) L L1) :
    OpE P n κ al L o fun v M => v = .tuple #[] ∧ M = Mp b [] :: L1 := OpE.of_run fun a w he hs => by
  subst hxs
  obtain ⟨K, ti, h1, h2, h3, h4⟩ := hT
  obtain ⟨ms, clock, hb, hst, hpm⟩ := hs.mp hp
  refine ⟨_, _, _, .inl ?_, ⟨rfl, rfl⟩, hs.mpNew (ms' := #[]) (clock' := clock) hp (sys_set w b _) (heap_set hb).1 (heap_set hb).2 (stamped_empty _) (by simp)⟩
  simp [execOp, ho, hts, resolve, invoke, builtin, Builtin.clear_, he.ev hx, run_underlying h1, MapKept.run_getObj_map hb, run_setObj_map _ hb]

/- 3. LOOPS OVER A MAP -/
/-- A map and an iterator over it that has 'rem' left. -/
def MpIt (b it : Nat) (es rem : List (Int × Value)) (last : Option (Int × Value)) : Assn := fun _ h => ∃ ms clock since seen, h b = some (.map ms clock) ∧ h it = some (.mapIter (some b) since seen clock) ∧ it ≠ b ∧ Stamped ms clock ∧ (ms.toList.map mkv).Perm (es.map kv) ∧ since = clock ∧ ((leftOf ms seen).toList.map mkv).Perm (rem.map kv) ∧ ∀ x, last = some x → ∃ e ∈ ms.toList, seen.back? = some e.born ∧ mkv e = kv x

theorem MpIt.stop {it : Nat} {rem : List (Int × Value)} {last : Option (Int × Value)} : Ent (MpIt b it es rem last :: L) (Mp b es :: L) := by
  rintro z h ⟨h1, h2, z1, a, bb, c, d, ⟨ms, clock, since, seen, e1, _, _, e3, e4, _⟩, H⟩
  exact ⟨h1, h2, z1, a, bb, c, d, ⟨ms, clock, e1, e3, e4⟩, H⟩

theorem E.rangeMap {x : Operand} (ho : o.op = .range T x) (hT : MapTy P T V zv) (hx : ev al x = some (.map (some b))) (hp : Pick (Mp b es) L L1) :
    OpE P n κ al L o fun v M => ∃ it, v = ptr it 0 ∧ M = MpIt b it es es none :: L1 := OpE.of_run fun a w he hs => by
  obtain ⟨K, ti, h1, h2, h3, h4⟩ := hT
  obtain ⟨ms0, clock0, hb, hst, hpm⟩ := hs.mp hp
  have hlt : b < w.heap.size := (Array.getElem?_eq_some_iff.1 hb).1
  have hs2 := (hs.ent hp).new (A := fun _ h => h w.heap.size = some (.mapIter (some b) clock0 #[] clock0)) (o := .mapIter (some b) clock0 #[] clock0) (fun _ => by simp [Frag.one])
  refine ⟨ptr w.heap.size 0, w.alloc (.mapIter (some b) clock0 #[] clock0), _, .inl ?_, ⟨w.heap.size, rfl, rfl⟩, ?_⟩
  · have := run_range_map (P := P) w T K V b ms0 clock0 h1 hb
    simp [execOp, ho, he.ev hx, this]
  · have hb2 : (w.alloc (.mapIter (some b) clock0 #[] clock0)).heap[b]? = some (.map ms0 clock0) := by rw [heap_alloc_old w _ hlt, hb]
    obtain ⟨s, z, h, d1, d2, d3, k1, k2, z1, e1, e2, e3, e4, e5, m1, m2, z2, f1, f2, f3, f4, ⟨ms, clock, f5, f6, f7⟩, f8⟩ := hs2
    have hh : (w.alloc (.mapIter (some b) clock0 #[] clock0)).heap[b]? = some (.map ms clock) := d3 b _ (e4 b _ (f3 b _ f5))
    rw [hb2] at hh
    cases hh
    refine ⟨s, z, h, d1, d2, d3, k1.un m1, m2, z, Frag.le.refl _, ?_, Frag.un_le e3 (f3.trans e4), f4.trans e4, ⟨ms0, clock0, clock0, #[], ?_, ?_, by omega, f6, f7, rfl, ?_, fun _ h => by cases h⟩, f8⟩
    · exact Frag.un_disj (e2.mono (Frag.le.refl _) f4) f2
    · exact Frag.le_un_right (e2.mono (Frag.le.refl _) f3) b _ f5
    · exact Frag.le_un_left _ _ _ _ e5
    · have : leftOf ms0 #[] = ms0 := by simp [leftOf]
      rw [this]; exact f7

theorem Sep.mpIt {w : World} {it : Nat} {rem : List (Int × Value)} {last : Option (Int × Value)} (hs : Sep κ w (MpIt b it es rem last :: L)) : ∃ ms clock seen, w.heap[b]? = some (.map ms clock) ∧ w.heap[it]? = some (.mapIter (some b) clock seen clock) ∧ it ≠ b ∧ Stamped ms clock ∧ (ms.toList.map mkv).Perm (es.map kv) ∧ ((leftOf ms seen).toList.map mkv).Perm (rem.map kv) ∧ (∀ x, last = some x → ∃ e ∈ ms.toList, seen.back? = some e.born ∧ mkv e = kv x) ∧
    (∀ (w' : World) (seen' : Array Nat) (rem' : List (Int × Value)) (last' : Option (Int × Value)), Sys w w' → w'.heap[it]? = some (.mapIter (some b) clock seen' clock) → (∀ k, k ≠ it → w'.heap[k]? = w.heap[k]?) → ((leftOf ms seen').toList.map mkv).Perm (rem'.map kv) → (∀ x, last' = some x → ∃ e ∈ ms.toList, seen'.back? = some e.born ∧ mkv e = kv x) → Sep κ w' (MpIt b it es rem' last' :: L)) := by
  obtain ⟨s, z, h, d1, d2, d3, k1, k2, z1, e1, e2, e3, e4, ⟨ms, clock, since, seen, g1, g2, g3, g4, g5, g6, g7, g8⟩, H⟩ := hs
  subst g6
  refine ⟨ms, since, seen, d3 b _ (e3 b _ g1), d3 it _ (e3 it _ g2), g3, g4, g5, g7, g8, fun w' seen' rem' last' hw hit hk hperm hlast => ?_⟩
  have hs' : Sep κ w ((fun (_ : Frag) (h : Frag) => h b = some (.map ms since) ∧ h it = some (.mapIter (some b) since seen since)) :: L) := ⟨s, z, h, d1, d2, d3, k1, k2, z1, e1, e2, e3, e4, ⟨g1, g2⟩, H⟩
  refine hs'.change (b := it) (o := .mapIter (some b) since seen since) (o' := .mapIter (some b) since seen' since) Pick.here (fun _ h1 hA => ⟨hA.2, fun h2 hb' hk' => ⟨ms, since, since, seen', ?_, hb', g3, g4, g5, rfl, hperm, hlast⟩⟩) hw hit hk
  rw [hk' b (Ne.symm g3)]; exact hA.1

theorem E.nextMap {it : Nat} {rem : List (Int × Value)} {last : Option (Int × Value)} {x : Operand} (ho : o.op = .next x false) (hx : ev al x = some (ptr it 0)) (hp : Pick (MpIt b it es rem last) L L1) :
    OpE P n κ al L o fun v M => (rem = [] ∧ v = .tuple #[.bool false] ∧ M = MpIt b it es [] last :: L1) ∨ ∃ x rem', x ∈ rem ∧ rem.Perm (x :: rem') ∧ v = .tuple #[.bool true, vI x.1, x.2] ∧ M = MpIt b it es rem' (some x) :: L1 := OpE.of_run fun a w he hs => by
  obtain ⟨ms, clock, seen, hb, hit, hne, hst, hpm, hleft, _, hnew⟩ := (hs.ent hp).mpIt
  have htest := next_test_false seen ms clock clock hst.1 (Nat.le_refl _)
  have hx' := he.ev hx
  have hget : (getObj it).run P w = .ok (.mapIter (some b) clock seen clock) w := by simp [getObj, Sem.run, hit]
  have hset : ∀ o', (setObj it o').run P w = .ok () { w with heap := w.heap.setIfInBounds it o' } := fun o' => by simp [setObj, Sem.run, hit]
  have hmem : ∀ y ∈ (leftOf ms seen).toList, y.born < clock ∧ y ∈ ms.toList := fun y hy => by
    have h2 : y ∈ ms.toList := by simp [leftOf] at hy ⊢; exact hy.1
    exact ⟨hst.1 y h2, h2⟩
  have e1 : (leftOf ms seen).filter (fun x => decide (x.born < clock)) = leftOf ms seen := Array.filter_eq_self.2 (fun y hy => by simpa using (hmem y (by simpa using hy)).1)
  have e2 : (leftOf ms seen).filter (fun x => decide (x.born ≥ clock)) = #[] := by
    rw [Array.filter_eq_empty_iff]
    intro y hy
    have := (hmem y (by simpa using hy)).1
    simp; omega
  have hdef : leftOf ms seen = ms.filter fun e => !seen.contains e.born := rfl
  by_cases h0 : (leftOf ms seen).size = 0
  · have hemp : leftOf ms seen = #[] := Array.eq_empty_of_size_eq_zero h0
    have hrem : rem = [] := by
      rw [hemp] at hleft
      have := hleft.length_eq
      simpa using this.symm
    subst hrem
    refine ⟨_, w, _, .inl ?_, .inl ⟨rfl, rfl, rfl⟩, hs.ent hp⟩
    rw [hemp] at e1 e2
    simp only [execOp, ho, hx', Instr.next, Sem.run_bind, hget, MapKept.run_getObj_map hb, Result.andThen, htest, Bool.false_eq_true, if_false, ← hdef, hemp]
    simp [choose, Sem.run, Question.forced]
  · have hne' : (leftOf ms seen).isEmpty = false := by simp [Array.isEmpty, h0]
    have hch : ∃ (j : Nat) (dr : Nat), j < (leftOf ms seen).size ∧ (choose (Question.mapNext (leftOf ms seen).size)).run P w = .ok j { w with drawn := dr } := by
      by_cases hf : (leftOf ms seen).size ≤ 1
      · exact ⟨0, w.drawn, by omega, by simp [choose, Sem.run, Question.forced, hf]⟩
      · exact ⟨_, w.drawn + 1, Nat.mod_lt _ (by omega), by
          simp only [choose, Sem.run, Question.forced, decide_eq_true_eq, hf, if_false, Question.cut]
          rfl⟩
    obtain ⟨j, dr, hj, hrun⟩ := hch
    let e := (leftOf ms seen)[j]
    have heL : e ∈ (leftOf ms seen).toList := by simp [e]
    obtain ⟨x, hxr, hxe⟩ := mem_of_perm hleft heL
    obtain ⟨q, hq⟩ := List.getElem?_of_mem hxr
    have hq2 := List.getElem?_eq_some_iff.1 hq
    obtain ⟨hqlt, hqe⟩ := hq2
    have hperm : rem.Perm (x :: rem.eraseIdx q) := by
      have := (perm_eraseIdx hqlt).symm
      rwa [hqe] at this
    have hset' : (setObj it (.mapIter (some b) clock (seen.push e.born) clock)).run P { w with drawn := dr } = .ok () { w with drawn := dr, heap := w.heap.setIfInBounds it (.mapIter (some b) clock (seen.push e.born) clock) } := by simp [setObj, Sem.run, hit]
    have hkey : e.key = vI x.1 := congrArg Prod.fst hxe
    have hval : e.val = x.2 := congrArg Prod.snd hxe
    -- what is left then
    have hleft' : ((leftOf ms (seen.push e.born)).toList.map mkv).Perm ((rem.eraseIdx q).map kv) := by
      have hfil : leftOf ms (seen.push e.born) = (leftOf ms seen).filter (fun y => y.born != e.born) := by
        simp only [leftOf, Array.filter_filter]
        have hfc : ∀ (f g : MapEntry → Bool), f = g → ms.filter f = ms.filter g := fun _ _ h => by rw [h]
        apply hfc
        funext y
        rw [Array.contains_push, Bool.not_or, bne]
        cases (y.born == e.born) <;> cases seen.contains y.born <;> rfl
      have hnd : ((leftOf ms seen).toList.map (·.born)).Nodup := by
        have hsub : (leftOf ms seen).toList.Sublist ms.toList := by simp [leftOf]
        exact (hsub.map _).nodup hst.2.1
      have hsplit : ((leftOf ms seen).toList).Perm (e :: ((leftOf ms seen).toList.filter (fun y => y.born != e.born))) := by
        generalize (leftOf ms seen).toList = l at hnd heL
        clear hfil
        induction l with
        | nil => cases heL
        | cons y l ih =>
          rw [List.map_cons, List.nodup_cons] at hnd
          by_cases hye : y = e
          · subst hye
            have : (e :: l).filter (fun z => z.born != e.born) = l := by
              rw [List.filter_cons_of_neg (by simp), List.filter_eq_self]
              intro z hz
              simp only [bne_iff_ne, ne_eq]
              exact fun h => hnd.1 (h ▸ List.mem_map_of_mem (f := MapEntry.born) hz)
            rw [this]
          · have heL' : e ∈ l := by
              rcases List.mem_cons.1 heL with h | h
              · exact absurd h.symm hye
              · exact h
            have hne2 : y.born ≠ e.born := fun h => hnd.1 (h ▸ List.mem_map_of_mem (f := MapEntry.born) heL')
            have : (y :: l).filter (fun z => z.born != e.born) = y :: l.filter (fun z => z.born != e.born) := by simp [hne2]
            rw [this]
            exact ((ih hnd.2 heL').cons y).trans (List.Perm.swap _ _ _)
      have h1 := hsplit.map mkv
      rw [List.map_cons] at h1
      have h2 := (h1.symm.trans hleft).trans (hperm.map kv)
      rw [List.map_cons, hxe] at h2
      rw [hfil, Array.toList_filter]
      exact h2.cons_inv
    refine ⟨_, { w with drawn := dr, heap := w.heap.setIfInBounds it (.mapIter (some b) clock (seen.push e.born) clock) }, _, .inl ?_, .inr ⟨x, rem.eraseIdx q, hxr, hperm, rfl, rfl⟩, hnew _ (seen.push e.born) _ _ ⟨rfl, rfl, rfl⟩ (heap_set hit).1 (heap_set hit).2 hleft' (fun y hy => ⟨e, (hmem e heL).2, Array.back?_push .., by cases hy; exact hxe⟩)⟩
    simp only [execOp, ho, hx', Instr.next, Sem.run_bind, hget, MapKept.run_getObj_map hb, Result.andThen, htest, Bool.false_eq_true, if_false, ← hdef, e1, e2, Array.append_empty, hne', Array.empty_append, Array.size_map, hrun, Array.getElem?_map, Array.getElem?_eq_getElem hj, Option.map_some]
    simp only [e] at hset' hkey hval
    simp only [hset', hkey, hval]
    rfl
theorem V.entryMap {it : Nat} {rem : List (Int × Value)} {e : Int × Value} {x : Operand} (ho : o.op = .entry x) (hx : ev al x = some (ptr it 0)) (hp : Pick (MpIt b it es rem (some e)) L L1) : OpV P n κ al L o (.tuple #[vI e.1, e.2]) := fun a w he hs => by
  obtain ⟨ms, clock, seen, hb, hit, hne, hst, hpm, _, hlast, _⟩ := (hs.ent hp).mpIt
  obtain ⟨m, hm, hback, hme⟩ := hlast e rfl
  have hget : (getObj it).run P w = .ok (.mapIter (some b) clock seen clock) w := by simp [getObj, Sem.run, hit]
  have hf : ms.find? (·.born == m.born) = some m := by rw [← Array.find?_toList]; exact find_born m ms.toList hst.2.1 hm
  have hk : m.key = vI e.1 := congrArg Prod.fst hme
  have hv : m.val = e.2 := congrArg Prod.snd hme
  simp only [execOp, ho, he.ev hx, Instr.entry, Sem.run_bind, hget, Result.andThen, hback, MapKept.run_getObj_map hb, bne_self_eq_false, Bool.false_eq_true, if_false, hf, hk, hv]
  rfl
end
end Go.Wk

namespace Go.Wk

/- 1. ONE OF A FAMILY, UNDER A CONDITION -/
def Exp {ι : Type} (p : ι → Prop) (A : ι → List Assn) : Assn := fun z h => ∃ i, p i ∧ Holds z (A i) h
section
variable {P : Program} {f : FuncId} {n : Nat} {κ : World} {K : Post} {k : List Item} {al : List (Nat × Value)} {L L1 : List Assn} {ops : Array Oper} {rest : List Oper}
theorem Exp.close {ι : Type} {p : ι → Prop} {A : ι → List Assn} (i : ι) (hi : p i) : Ent (A i ++ L) (Exp p A :: L) := fun z h H => by
  obtain ⟨ha, hb, g1, g2, g3, g4, g5⟩ := Holds.split H
  exact ⟨ha, hb, z, Frag.le.refl _, g1, g2, g3, ⟨i, hi, g4⟩, g5⟩
theorem Sep.openExp {ι : Type} {p : ι → Prop} {A : ι → List Assn} {w : World} (hs : Sep κ w (Exp p A :: L)) : ∃ i, p i ∧ Sep κ w (A i ++ L) := by
  obtain ⟨s, z, h, d1, d2, d3, h1, h2, z1, g1, g2, g3, g4, ⟨i, hi, hA⟩, H⟩ := hs
  exact ⟨i, hi, s, z, h, d1, d2, d3, Holds.app g2 g3 g4 (Holds.mono g1 (Frag.le.refl _) hA) H⟩
theorem SG.openExp {ι : Type} {p : ι → Prop} {A : ι → List Assn} (hp : Pick (Exp p A) L L1) (h : ∀ i, p i → SG P f n κ K k al (A i ++ L1)) : SG P f n κ K k al L := fun a w he hs => by
  obtain ⟨i, hi, h2⟩ := (hs.ent hp).openExp
  exact h i hi a w he h2
theorem RL.openExp {ι : Type} {p : ι → Prop} {A : ι → List Assn} (hp : Pick (Exp p A) L L1) (h : ∀ i, p i → RL P f n κ K k ops rest al (A i ++ L1)) : RL P f n κ K k ops rest al L := fun a w he hs => by
  obtain ⟨i, hi, h2⟩ := (hs.ent hp).openExp
  exact h i hi a w he h2
theorem RH.openExp {ι : Type} {p : ι → Prop} {A : ι → List Assn} {L0 : List Assn} {x fuel : Nat} {listed : Array Bool} (hp : Pick (Exp p A) L L1) (h : ∀ i, p i → RH P f n κ K k ops L0 x fuel listed al (A i ++ L1)) : RH P f n κ K k ops L0 x fuel listed al L := fun a w he hs hn => by
  obtain ⟨i, hi, h2⟩ := (hs.ent hp).openExp
  exact h i hi a w he h2 hn
theorem Ctr.openExp {ι : Type} {p : ι → Prop} {A : ι → List Assn} {args : Array Value} (hp : Pick (Exp p A) L L1) (h : ∀ i, p i → Ctr P f args κ (A i ++ L1) K) : Ctr P f args κ L K := fun w hs => by
  obtain ⟨i, hi, h2⟩ := (hs.ent hp).openExp
  exact h i hi w h2
theorem Sep.expFact {ι : Type} {p : ι → Prop} {A : ι → List Assn} {w : World} (hs : Sep κ w L) (hp : Pick (Exp p A) L L1) : ∃ i, p i := let ⟨i, hi, _⟩ := (hs.ent hp).openExp; ⟨i, hi⟩
end

theorem mapTy_of {P : Program} {T K V : TypeId} {zs : Value} (h1 : P.underlying T = some (.map K V)) (h2 : P.underlying K = some (.int .i64)) (h3 : (P.info? V).map (·.zero) = some (some zs)) : MapTy P T V zs := by
  cases hi : P.info? V with
  | none => rw [hi] at h3; cases h3
  | some i => rw [hi] at h3; exact ⟨K, i, h1, h2, hi, by simpa using h3⟩
/- 2. HEADERS OF SLICES; ARRAYS OF BYTES -/
abbrev Tri := Option Addr × Nat × Nat
@[reducible] def tv (t : Tri) : Value := .slice t.1 t.2.1 t.2.2
def RTri : Rep Tri := Rep.sc tv (fun _ => True) (fun _ => rfl)
def RArr8 (n : Nat) : Rep (List UInt8) := Rep.dt n (fun l => l.map v8) (fun l => l.length = n) (fun l h => by simpa using h) (fun l u hu => by obtain ⟨x, _, rfl⟩ := List.mem_map.1 hu; rfl)

section
variable {P : Program} {f : FuncId} {n : Nat} {κ : World} {K : Post} {k : List Item} {al : List (Nat × Value)} {L L1 : List Assn} {o : Oper} {v : Value} {α : Type} {T : Rep α} {a : Option Addr} {m c : Nat} {l : List α} {e : TypeId}

theorem V.sliceArr {T' len E sz b i lo hi : Nat} {x : Operand} {y z : Option Operand} (ho : o.op = .slice T' x y z none) (hT : ArrTy P T' len E sz) (hx : ev al x = some (ptr b i)) (hlo : BoundOf al y 0 lo) (hhi : BoundOf al z len hi) (h0 : lo = 0) (h1 : lo ≤ hi) (h2 : hi ≤ len) :
    OpV P n κ al L o (.slice (some ⟨b, i, none⟩) hi len) := V.of_run fun a' w he => by
  obtain ⟨ti, h5, h6, rfl⟩ := hT
  subst h0
  have hadd : (if len = 0 then (⟨b, i, none⟩ : Addr) else ⟨b, i, none⟩) = ⟨b, i, none⟩ := by split <;> rfl
  simp [execOp, ho, Instr.sliceAt, he.ev hx, run_underlying h5, Instr.sureAddr, run_sliceBounds he hlo hhi h1 h2, run_sizeOf_info h6, addr_add]

/-- Addresses that are known to be there. -/
theorem V.indexAd {T' E sz j : Nat} {k : IntKind} {i : Int} {x y : Operand} {ad : Addr} (ho : o.op = .indexAddr T' x y) (hT : SliceTy P T' E sz) (hx : ev al x = some (.slice (some ad) m c)) (hy : ev al y = some (.int k i)) (hj : i = (j : Int)) (hlt : j < m) :
    OpV P n κ al L o (eptr (some ad) (j * sz)) := V.of_run fun a' w he => by
  obtain ⟨ti, h5, h6, rfl⟩ := hT
  subst hj
  simp [execOp, ho, he.ev hx, he.ev hy, Instr.indexAt, asIntOf, run_underlying h5, hlt, run_sizeOf_info h6, eptr]
theorem V.sliceAd {T' len E sz lo hi : Nat} {x : Operand} {y z : Option Operand} {ad : Addr} (ho : o.op = .slice T' x y z none) (hT : ArrTy P T' len E sz) (hx : ev al x = some (.pointer (some ad))) (hlo : BoundOf al y 0 lo) (hhi : BoundOf al z len hi) (h0 : lo = 0) (h1 : lo ≤ hi) (h2 : hi ≤ len) :
    OpV P n κ al L o (.slice (some ad) hi len) := V.of_run fun a' w he => by
  obtain ⟨ti, h5, h6, rfl⟩ := hT
  subst h0
  have hadd : ad.add 0 = ad := by unfold Addr.add; simp
  simp [execOp, ho, Instr.sliceAt, he.ev hx, run_underlying h5, Instr.sureAddr, run_sliceBounds he hlo hhi h1 h2, run_sizeOf_info h6, hadd]

theorem V.sliceEl {T' len E sz lo hi j : Nat} {x : Operand} {y z : Option Operand} (ho : o.op = .slice T' x y z none) (hT : ArrTy P T' len E sz) (hx : ev al x = some (eptr a (j * T.sz))) (hp : Pick (Buf T e a m c l) L L1) (hj : j < l.length) (hlo : BoundOf al y 0 lo) (hhi : BoundOf al z len hi) (h0 : lo = 0) (h1 : lo ≤ hi) (h2 : hi ≤ len) :
    OpV P n κ al L o (.slice (a.map (·.add (j * T.sz))) hi len) := fun a' w he hs => by
  obtain ⟨g1, _, _⟩ := hs.buf hp
  rcases (hs.ent hp).open_buf with ⟨_, h4, _⟩ | ⟨b, pre, cs, rest, fz, rfl, _⟩
  · omega
  · simp only [eptr, Option.map_some, addr_add] at hx ⊢
    exact V.sliceArr (κ := κ) (L := L) ho hT hx hlo hhi h0 h1 h2 a' w he hs

theorem V.sl2arr {T' len E sz : Nat} {x : Operand} (ho : o.op = .sliceToArrayPointer T' x) (hT : ArrTy P T' len E sz) (hx : ev al x = some (.slice a m c)) (h : len ≤ m) : OpV P n κ al L o (.pointer a) := V.of_run fun a' w he => by
  obtain ⟨ti, h5, _, _⟩ := hT
  have h' : ¬ m < len := by omega
  simp [execOp, ho, he.ev hx, Instr.arrayAt, run_underlying h5, h']
theorem V.loadArrSl {T' : TypeId} {x : Operand} {l : List UInt8} (ho : o.op = .load T' x) (hT : Agg P T' m) (hx : ev al x = some (.pointer a)) (hm : Sl R8 a m c l ∈ L) (h0 : 0 < m) : OpV P n κ al L o (.agg (l.map v8).toArray) := fun a' w he hs => by
  obtain ⟨z, hz, h1, _, _, h4⟩ := hs.sl hm
  rcases h4 with h4 | ⟨b, off, cs, rfl, hr, hrows⟩
  · omega
  · obtain ⟨rfl, _⟩ := rows_sc.1 hrows
    have hl := loadCells_bytes (P := P) hz hr
    rw [h1] at hl
    have hg := hT.agg w
    obtain ⟨d, ti, e1, e2, e3, e4⟩ := hT
    rw [← e4] at hl
    simp [execOp, ho, he.ev hx, Instr.loadAt, Instr.sureAddr, loadVar, hg, run_sizeOf_info e3, hl]

section
variable {sz : Nat} {g : α → List Value} {ok : α → Prop} {hl0 : ∀ x, ok x → (g x).length = sz} {h10 : ∀ x, ∀ u ∈ g x, u.oneCell' = true}
theorem V.loadBufDt {T' j : Nat} {y : α} {x : Operand} (ho : o.op = .load T' x) (hT : Agg P T' sz) (hx : ev al x = some (eptr a (j * (Rep.dt sz g ok hl0 h10).sz))) (hp : Pick (Buf (Rep.dt sz g ok hl0 h10) e a m c l) L L1) (hy : l[j]? = some y) : OpV P n κ al L o (.agg (g y).toArray) := fun a' w he hs => by
  have hj : j < l.length := (List.getElem?_eq_some_iff.1 hy).1
  have hs2 := hs.ent hp
  obtain ⟨g1, g2, g3⟩ := hs2.buf Pick.here
  rcases hs2.open_buf with ⟨_, h4, _⟩ | ⟨b, pre, cs, rest, fz, rfl, hfz, hl, hcs, hsF⟩
  · omega
  · obtain ⟨z, hz, hrows⟩ := hsF.get_ro (R := fun z => (Rep.dt sz g ok hl0 h10).rows z cs l) (.tail _ (.head _))
    have hrep := hrows.2 j y hy
    have hus : (g y).length = sz := hl0 _ hrep.2
    have hus' : (cs.drop (j * sz)).take sz = g y := hrep.1
    have hb := hsF.blkF
    have hcells : (loadCells ⟨b, pre.length + j * sz, none⟩ (g y).length).run P w = .ok (g y).toArray w := by
      refine run_loadCells_list w _ (g y) fun i u hi => ?_
      rw [addr_add]
      rw [← hus', List.getElem?_take] at hi
      split at hi
      · rw [List.getElem?_drop] at hi
        have hlt := (List.getElem?_eq_some_iff.1 hi).1
        simp only [World.cell?, hb]
        simp [Nat.add_assoc, List.getElem?_append_right, List.getElem?_append_left hlt, hi]
      · cases hi
    have hg := hT.agg w
    obtain ⟨d, ti, e1, e2, e3, e4⟩ := hT
    have hx' := he.ev hx
    simp [eptr, addr_add, Rep.dt] at hx'
    rw [hus, ← e4] at hcells
    rw [← e4] at hx'
    simp [execOp, ho, hx', Instr.loadAt, Instr.sureAddr, loadVar, hg, run_sizeOf_info e3, hcells]
theorem V.loadSlDt {T' j : Nat} {y : α} {x : Operand} (ho : o.op = .load T' x) (hT : Agg P T' sz) (hx : ev al x = some (eptr a (j * (Rep.dt sz g ok hl0 h10).sz))) (hm : Sl (Rep.dt sz g ok hl0 h10) a m c l ∈ L) (hy : l[j]? = some y) : OpV P n κ al L o (.agg (g y).toArray) := fun a' w he hs => by
  have hj : j < l.length := (List.getElem?_eq_some_iff.1 hy).1
  obtain ⟨z, hz, h1, _, _, h4⟩ := hs.sl hm
  rcases h4 with h4 | ⟨b, off, cs, rfl, hr, hrows⟩
  · omega
  · have hrep := hrows.2 j y hy
    have hus : (g y).length = sz := hl0 _ hrep.2
    have hus' : (cs.drop (j * sz)).take sz = g y := hrep.1
    have hr2 := hr.sub (j * sz) sz
    rw [hus'] at hr2
    have hcells : (loadCells ⟨b, off + j * sz, none⟩ (g y).length).run P w = .ok (g y).toArray w := by
      refine run_loadCells_list w _ (g y) fun i u hi => ?_
      rw [addr_add]
      exact cell_of_row hz hr2 hi
    have hg := hT.agg w
    obtain ⟨d, ti, e1, e2, e3, e4⟩ := hT
    have hx' := he.ev hx
    simp [eptr, addr_add, Rep.dt] at hx'
    rw [hus, ← e4] at hcells
    rw [← e4] at hx'
    simp [execOp, ho, hx', Instr.loadAt, Instr.sureAddr, loadVar, hg, run_sizeOf_info e3, hcells]
theorem Src.litDt {b E c' : Nat} {us : List Value} {y : α} (hp : Pick (Blk b E us) L L1) (hu : us = g y) (hok : ok y) : Src P L (Rep.dt sz g ok hl0 h10) (.slice (some ⟨b, 0, none⟩) 1 c') [y] := by
  subst hu
  exact Src.blk (l := [y]) hp (h10 y) fun z h _ => Rep.rows.single ⟨rfl, hok⟩
theorem rows_dt {z : Frag} {cs : List Value} (h : (Rep.dt sz g ok hl0 h10).rows z cs l) : ∀ x ∈ l, ok x := fun x hx => by
  obtain ⟨i, hi⟩ := List.getElem?_of_mem hx
  exact (h.2 i x hi).2
theorem Sep.bufOk {w : World} (hs : Sep κ w L) (hp : Pick (Buf (Rep.dt sz g ok hl0 h10) e a m c l) L L1) : ∀ x ∈ l, ok x := by
  obtain ⟨_, z, h, _, _, _, d⟩ := hs
  obtain ⟨h1, h2, z1, _, _, _, _, ⟨k1, _, _, k4⟩, _⟩ := hp z h d
  rcases k4 with ⟨_, k5, _⟩ | ⟨_, _, _, _, _, _, _, _, hr, _⟩
  · intro x hx
    have : l = [] := List.eq_nil_of_length_eq_zero (by omega)
    rw [this] at hx; cases hx
  · exact rows_dt hr
theorem Sep.slOk {w : World} (hs : Sep κ w L) (hm : Sl (Rep.dt sz g ok hl0 h10) a m c l ∈ L) : ∀ x ∈ l, ok x := by
  obtain ⟨z, _, k1, _, _, k4⟩ := hs.sl hm
  rcases k4 with k4 | ⟨_, _, _, _, _, hr⟩
  · intro x hx
    have : l = [] := List.eq_nil_of_length_eq_zero (by omega)
    rw [this] at hx; cases hx
  · exact rows_dt hr
end

/-- A whole block is overwritten. -/
theorem E.storeWhole {T' E0 b m' : Nat} {x y : Operand} {cs us : List Value} (ho : o.op = .store T' x y) (hx : ev al x = some (ptr b 0)) (hy : ev al y = some (.agg us.toArray)) (hm : us.length = m') (hT : ∃ ti, P.info? T' = some ti ∧ ti.size = m') (hp : Pick (Blk b E0 cs) L L1)
    (h1 : ∀ u ∈ us, u.oneCell' = true) (hl : cs.length = m') : OpE P n κ al L o fun _ M => M = Blk b E0 us :: L1 := by
  have h := E.storeAgg (n := n) (κ := κ) (L1 := L1) ho hx hy hm hT hp h1 (by omega)
  have e : setAt cs 0 us = us := by
    have := setAt_mid us [] cs [] (by omega)
    simpa using this
  rwa [e] at h

/-- The bytes of an element, as a slice. -/
theorem Src.el {w' j : Nat} {l : List (List UInt8)} {s : List UInt8} (hp : Pick (Buf (RArr8 w') e a m c l) L L1) (hy : l[j]? = some s) : Src P L R8 (.slice (a.map (·.add (j * w'))) w' w') s := fun z h H => by
  obtain ⟨h1, h2, z1, g1, g2, g3, g4, ⟨k1, k2, k3, k4⟩, _⟩ := hp z h H
  have hj : j < l.length := (List.getElem?_eq_some_iff.1 hy).1
  rcases k4 with ⟨_, k5, _⟩ | ⟨b, pre, cs, rest, fz, rfl, hb, hf, hr, hl⟩
  · omega
  · have hrep := hr.2 j s hy
    have hs : s.length = w' := hrep.2
    have hcs : (cs.drop (j * w')).take w' = s.map v8 := hrep.1
    refine ⟨s.map v8, rows_sc.2 ⟨rfl, fun _ _ => trivial⟩, fun u hu => by obtain ⟨x, _, rfl⟩ := List.mem_map.1 hu; rfl, fun w hz hh => ⟨fun k hk => ?_, by simp [Builtin.lenOf, hs]⟩⟩
    have hrow : Row h1 b pre.length cs := fun i u hu => by
      have hi : i < cs.length := (List.getElem?_eq_some_iff.1 hu).1
      simp only [cellAt, hb]
      simp [List.getElem?_append_right, List.getElem?_append_left hi, hu]
    have hrow2 := hrow.sub (j * w') w'
    rw [hcs] at hrow2
    simp only [Option.map_some, addr_add, show R8.sz = 1 from rfl]
    exact run_firstCells_row (g3.trans hh) hrow2 (by simp; omega)

theorem E.copyEl {dT E w0 d dc j : Nat} {x y : Operand} {xs : Array Operand} {ts : Array TypeId} {yv : Value} {l : List (List UInt8)} {s l2 : List UInt8} (ho : o.op = .call ⟨.builtin .copy, xs, ts⟩) (hxs : xs = #[x, y]) (hts : ts[0]? = some dT) (hdT : ElemTy P dT E 1 1) (hx : ev al x = some (.slice (a.map (·.add (j * w0))) d dc)) (hy : ev al y = some yv)
    (hp : Pick (Buf (RArr8 w0) e a m c l) L L1) (hj : l[j]? = some s) (hd : d ≤ w0) (hsrc : Src P L R8 yv l2) :
    OpE P n κ al L o fun v M => v = vI (min l2.length d : Nat) ∧ M = Buf (RArr8 w0) e a m c (l.set j (l2.take (min l2.length d) ++ s.drop (min l2.length d))) :: L1 := OpE.of_run fun a' w he hs => by
  subst hxs
  have hlt : j < l.length := (List.getElem?_eq_some_iff.1 hj).1
  have hs0 := hs
  obtain ⟨s0, z, h, d1, d2, d3, H⟩ := hs
  obtain ⟨cs2, hrows2, hone, hread⟩ := hsrc z h H
  obtain ⟨hfirst, hlen⟩ := hread w d2 d3
  obtain ⟨rfl, _⟩ := rows_sc.1 hrows2
  have hs2 := hs0.ent hp
  obtain ⟨g1, g2, g3⟩ := hs2.buf Pick.here
  obtain ⟨ti, z2, t1, t2, t3, _, _, _⟩ := hdT
  rcases hs2.open_buf with ⟨_, h4, _⟩ | ⟨b, pre, cs, rest, fz, rfl, hfz, hl, hcs, hsF⟩
  · omega
  · generalize hkdef : min l2.length d = k
    have hk1 : k ≤ l2.length := by omega
    have hk2 : k ≤ w0 := by omega
    have hf := hfirst k hk1
    simp only [show R8.sz = 1 from rfl, Nat.mul_one] at hf
    obtain ⟨zz, hz, hrows⟩ := hsF.get_ro (R := fun z => (RArr8 w0).rows z cs l) (.tail _ (.head _))
    have hrep := hrows.2 j s hj
    have hsl : s.length = w0 := hrep.2
    have hcell : (cs.drop (j * w0)).take w0 = s.map v8 := hrep.1
    have hle : j * w0 + w0 ≤ cs.length := by
      have e : cs.length = l.length * w0 := hrows.1
      rw [e]
      have : (j + 1) * w0 ≤ l.length * w0 := Nat.mul_le_mul_right _ hlt
      rwa [Nat.add_mul, Nat.one_mul] at this
    have hul : ((l2.map v8).take k).length = k := by simp; omega
    obtain ⟨w', hst, hsys, hb', hk'⟩ := run_storeCells_row (P := P) ((l2.map v8).take k) (pre.length + j * w0) (pre ++ (cs ++ rest)) w hsF.blkF (fun q h1 h2 => hfz q (by omega) (by simp; omega)) (by simp only [List.length_append, hul]; omega) (fun u hu => hone u (List.mem_of_mem_take hu)) (pre.length + j * w0) 0 (by omega)
    have hdk : (cs.drop (j * w0)).drop k = (s.map v8).drop k ++ cs.drop (j * w0 + w0) := by
      have e1 : cs.drop (j * w0) = s.map v8 ++ cs.drop (j * w0 + w0) := by
        rw [← hcell, ← List.drop_drop, List.take_append_drop]
      rw [e1, List.drop_append_of_le_length (by simp; omega)]
    have hset : setAt (pre ++ (cs ++ rest)) (pre.length + j * w0) ((l2.map v8).take k) = pre ++ ((cs.take (j * w0) ++ (l2.take k ++ s.drop k).map v8 ++ cs.drop (j * w0 + w0)) ++ rest) := by
      have hsplit : pre ++ (cs ++ rest) = (pre ++ cs.take (j * w0)) ++ ((cs.drop (j * w0)).take k) ++ ((cs.drop (j * w0)).drop k ++ rest) := by
        have e1 : cs = cs.take (j * w0) ++ ((cs.drop (j * w0)).take k ++ (cs.drop (j * w0)).drop k) := by rw [List.take_append_drop, List.take_append_drop]
        conv => lhs; rw [e1]
        simp
      have := setAt_mid ((l2.map v8).take k) (pre ++ cs.take (j * w0)) ((cs.drop (j * w0)).take k) ((cs.drop (j * w0)).drop k ++ rest) (by simp; omega)
      rw [List.length_append, List.length_take, Nat.min_eq_left (by omega)] at this
      rw [hsplit, this, hdk]
      simp [List.map_append, List.map_take, List.map_drop]
    rw [hset] at hb'
    have hs3 := hsF.changeF hsys hb' hk'
    refine ⟨_, w', _, .inl ?_, ⟨rfl, rfl⟩, ?_⟩
    · have hx' := he.ev hx
      simp only [Option.map_some, addr_add] at hx'
      have hmin : Nat.min l2.length d = k := hkdef
      simp [execOp, ho, hts, resolve, invoke, builtin, Builtin.copy_, hx', he.ev hy, run_underlying t1, hlen, run_sizeOf_info t2, t3, hmin, hf, hst, goInt]
    · refine hs3.ent (Ent.trans (Ent.frame _ (?_ : Ent _ (ro (fun z => (RArr8 w0).rows z (cs.take (j * w0) ++ (l2.take k ++ s.drop k).map v8 ++ cs.drop (j * w0 + w0)) (l.set j (l2.take k ++ s.drop k))) :: L1))) (Buf.closeO (by simp [g1]) g2 g3 (fun i hp hi => hfz i hp ?_) ?_))
      · rintro z h ⟨h1, h2, z1, f1, f2, f3, f4, q, H'⟩
        exact Holds.add_ro (Rep.rows.set (q.mono f1) hlt ⟨rfl, by simp; omega⟩) (Holds.mono (Frag.le.refl _) f4 H')
      · simp only [List.length_append, List.length_take, List.length_drop, List.length_map] at hi ⊢; omega
      · rw [← hl]; simp only [List.length_append, List.length_take, List.length_drop, List.length_map]; omega

/-- A slice of our own, cut behind. -/
theorem Buf.cut {m' : Nat} (h : m' ≤ m) : Ent (Buf T e a m c l :: L) (Buf T e a m' c (l.take m') :: L) := by
  rintro z hh ⟨h1, h2, z1, g1, g2, g3, g4, ⟨k1, k2, k3, k4⟩, H⟩
  refine ⟨h1, h2, z1, g1, g2, g3, g4, ⟨by simp; omega, by omega, k3, ?_⟩, H⟩
  rcases k4 with ⟨rfl, rfl, rfl⟩ | ⟨b, pre, cs, rest, fz, rfl, hb, hf, hr, hl⟩
  · exact .inl ⟨rfl, by omega, rfl⟩
  · refine .inr ⟨b, pre, cs.take (m' * T.sz), cs.drop (m' * T.sz) ++ rest, fz, rfl, ?_, ?_, ?_, ?_⟩
    · rw [hb]; rw [← List.append_assoc (cs.take _), List.take_append_drop]
    · rw [← List.append_assoc (cs.take _), List.take_append_drop]; exact hf
    · have := hr.sub 0 m'; simpa using this
    · rw [← List.append_assoc (cs.take _), List.take_append_drop]; exact hl
/-- A slice of our own, cut in front. -/
theorem Buf.cutFront {lo : Nat} (h : lo ≤ m) (hlc : lo < c) : Ent (Buf T e a m c l :: L) (Buf T e (cutA a lo T.sz c) (m - lo) (c - lo) (l.drop lo) :: L) := by
  rintro z hh ⟨h1, h2, z1, g1, g2, g3, g4, ⟨k1, k2, k3, k4⟩, H⟩
  refine ⟨h1, h2, z1, g1, g2, g3, g4, ⟨by simp; omega, by omega, by omega, ?_⟩, H⟩
  rcases k4 with ⟨rfl, rfl, rfl⟩ | ⟨b, pre, cs, rest, fz, rfl, hb, hf, hr, hl⟩
  · omega
  · have hcl : cs.length = m * T.sz := by rw [hr.1, k1]
    have hle : lo * T.sz ≤ cs.length := by rw [hcl]; exact Nat.mul_le_mul_right _ h
    refine .inr ⟨b, pre ++ cs.take (lo * T.sz), cs.drop (lo * T.sz), rest, fz, ?_, ?_, ?_, ?_, ?_⟩
    · have hne : ¬ c = lo := by omega
      simp [cutA, hne, addr_add, Nat.min_eq_left hle]
    · rw [hb]; congr 2
      rw [List.append_assoc, ← List.append_assoc (cs.take _), List.take_append_drop]
    · intro i hi1 hi2
      refine hf i (by simp at hi1; omega) ?_
      rwa [List.append_assoc, ← List.append_assoc (cs.take _), List.take_append_drop] at hi2
    · have := hr.sub lo (l.length - lo)
      have e1 : ((cs.drop (lo * T.sz)).take ((l.length - lo) * T.sz)) = cs.drop (lo * T.sz) := by
        apply List.take_of_length_le; rw [List.length_drop, hr.1, Nat.sub_mul]; omega
      have e2 : (l.drop lo).take (l.length - lo) = l.drop lo := List.take_of_length_le (by simp)
      rwa [e1, e2] at this
    · have : (cs.drop (lo * T.sz) ++ rest).length = (cs ++ rest).length - lo * T.sz := by simp only [List.length_append, List.length_drop]; omega
      rw [this, hl, Nat.sub_mul]
end
end Go.Wk
namespace Go.Wk
section
variable {P : Program} {f : FuncId} {n : Nat} {κ : World} {K : Post} {k : List Item} {al : List (Nat × Value)} {L L1 L' : List Assn} {ops : Array Oper} {L0 : List Assn} {x fuel : Nat} {listed : Array Bool} {α : Type} {T : Rep α} {a : Option Addr} {m c : Nat} {l : List α} {e : TypeId}
theorem Src.blk8 {b E c' : Nat} {s : List UInt8} (hs : s.length = m) (hp : Pick (Blk b E (s.map v8)) L L1) : Src P L R8 (.slice (some ⟨b, 0, none⟩) m c') s := by
  subst hs
  exact Src.blk hp (fun u hu => by obtain ⟨x, _, rfl⟩ := List.mem_map.1 hu; rfl) fun z h _ => rows_sc.2 ⟨rfl, fun _ _ => trivial⟩
theorem RH.ent (hL : Ent L L') (h : RH P f n κ K k ops L0 x fuel listed al L') : RH P f n κ K k ops L0 x fuel listed al L := h.weaken (EnvLe.refl _) hL
theorem RH.sep (h : (∀ w, Sep κ w L → Sep κ w L') ∧ RH P f n κ K k ops L0 x fuel listed al L') : RH P f n κ K k ops L0 x fuel listed al L := fun a w he hs => h.2 a w he (h.1 w hs)
theorem RH.publish (hp : Pick (Buf T e a m c l) L L1) (h : RH P f n κ K k ops L0 x fuel listed al (Sl T a m c l :: L1)) : RH P f n κ K k ops L0 x fuel listed al L := RH.sep ⟨Buf.publish (fun h => h.ent hp), h⟩
theorem RH.fact {p : Prop} (hp : ∀ w, Sep κ w L → p) (h : p → RH P f n κ K k ops L0 x fuel listed al L) : RH P f n κ K k ops L0 x fuel listed al L := fun a' w he hs => h (hp w hs) a' w he hs
theorem RH.buf (hp : Pick (Buf T e a m c l) L L1) (h : l.length = m → m ≤ c → c ≤ 9223372036854775807 → RH P f n κ K k ops L0 x fuel listed al L) : RH P f n κ K k ops L0 x fuel listed al L := fun a' w he hs => by
  obtain ⟨h1, h2, h3⟩ := hs.buf hp
  exact h h1 h2 h3 a' w he hs
/-- A slice with elements has an address. -/
theorem Sep.bufAd {w : World} (hs : Sep κ w L) (hp : Pick (Buf T e a m c l) L L1) (h : 0 < m) : ∃ ad, a = some ad := by
  rcases (hs.ent hp).open_buf with ⟨_, h4, _⟩ | ⟨b, pre, cs, rest, fz, h5, _⟩
  · omega
  · exact ⟨_, h5⟩
theorem SG.bufAd (hp : Pick (Buf T e a m c l) L L1) (h0 : 0 < m) (h : ∀ ad, a = some ad → SG P f n κ K k al L) : SG P f n κ K k al L := fun a' w he hs => by
  obtain ⟨ad, e⟩ := hs.bufAd hp h0
  exact h ad e a' w he hs
end
end Go.Wk

namespace Go.Wk
section
variable {P : Program} {f : FuncId} {n : Nat} {κ : World} {K : Post} {k : List Item} {al : List (Nat × Value)} {L L1 L' : List Assn} {o : Oper} {α : Type} {T : Rep α} {a : Option Addr} {m c : Nat} {e : TypeId}

/-- A one-cell element, read from memory. -/
theorem E.loadBufSl {T' j : Nat} {l : List (List α)} {y : List α} {x : Operand} (ho : o.op = .load T' x) (hT : One P T') (hx : ev al x = some (eptr a (j * (Rep.slice T).sz))) (hp : Pick (Buf (Rep.slice T) e a m c l) L L1) (hy : l[j]? = some y) :
    OpE P n κ al L o fun v M => ∃ a' m' c', v = .slice a' m' c' ∧ M = Sl T a' m' c' y :: L := OpE.of_run fun a' w he hs => by
  have hj : j < l.length := (List.getElem?_eq_some_iff.1 hy).1
  have hs0 := hs
  obtain ⟨s, z, h, d1, d2, d3, H⟩ := hs
  obtain ⟨h1, h2, z1, g1, g2, g3, g4, ⟨k1, k2, k3, k4⟩, _⟩ := hp z h H
  rcases k4 with ⟨_, k5, _⟩ | ⟨b, pre, cs, rest, fz, rfl, hb, hf, hr, hl⟩
  · omega
  · obtain ⟨a1, m1, c1, hcs, hsl⟩ := hr.2 j y hy
    have hsz : (Rep.slice T).sz = 1 := rfl
    rw [hsz, Nat.mul_one] at hcs
    have hlt : j < cs.length := by have h0 : cs.length = l.length * 1 := hr.1; omega
    have hcell0 : cs[j]? = some (.slice a1 m1 c1) := by
      rw [List.drop_eq_getElem_cons hlt] at hcs
      simp only [List.take_succ_cons, List.take_zero, List.cons.injEq, and_true] at hcs
      rw [List.getElem?_eq_getElem hlt, hcs]
    have hbw : w.heap[b]? = some (.cells (pre ++ (cs ++ rest)).toArray e fz) := d3 b _ (g3 b _ hb)
    have hcell : w.cell? ⟨b, pre.length + j, none⟩ = some (.slice a1 m1 c1) := by
      simp only [World.cell?, hbw]
      simp [List.getElem?_append_right, List.getElem?_append_left hlt, hcell0]
    have hx' := he.ev hx
    simp [eptr, addr_add, hsz] at hx'
    refine ⟨_, w, _, .inl ?_, ⟨a1, m1, c1, rfl, rfl⟩, s, z, h, d1, d2, d3, Holds.add_ro (hsl.mono g1) H⟩
    simp [execOp, ho, hx', Instr.loadAt, Instr.sureAddr, loadVar, hT.agg w, hcell]
theorem E.loadSlSl {T' j : Nat} {l : List (List α)} {y : List α} {x : Operand} (ho : o.op = .load T' x) (hT : One P T') (hx : ev al x = some (eptr a (j * (Rep.slice T).sz))) (hm : Sl (Rep.slice T) a m c l ∈ L) (hy : l[j]? = some y) :
    OpE P n κ al L o fun v M => ∃ a' m' c', v = .slice a' m' c' ∧ M = Sl T a' m' c' y :: L := OpE.of_run fun a' w he hs => by
  have hj : j < l.length := (List.getElem?_eq_some_iff.1 hy).1
  obtain ⟨s, z, h, d1, d2, d3, H⟩ := hs
  obtain ⟨h1, h2, z1, g1, g2, g3, g4, ⟨k1, k2, k3, k4⟩, _⟩ := Pick.ro hm z h H
  rcases k4 with k5 | ⟨b, off, cs, rfl, hrow, hr⟩
  · omega
  · obtain ⟨a1, m1, c1, hcs, hsl⟩ := hr.2 j y hy
    have hsz : (Rep.slice T).sz = 1 := rfl
    rw [hsz, Nat.mul_one] at hcs
    have hlt : j < cs.length := by have h0 : cs.length = l.length * 1 := hr.1; omega
    have hcell0 : cs[j]? = some (.slice a1 m1 c1) := by
      rw [List.drop_eq_getElem_cons hlt] at hcs
      simp only [List.take_succ_cons, List.take_zero, List.cons.injEq, and_true] at hcs
      rw [List.getElem?_eq_getElem hlt, hcs]
    have hcell := cell_of_row (g1.trans d2) hrow hcell0
    have hx' := he.ev hx
    simp [eptr, addr_add, hsz] at hx'
    refine ⟨_, w, _, .inl ?_, ⟨a1, m1, c1, rfl, rfl⟩, s, z, h, d1, d2, d3, Holds.add_ro (hsl.mono g1) H⟩
    simp [execOp, ho, hx', Instr.loadAt, Instr.sureAddr, loadVar, hT.agg w, hcell]

/-- A slice of slices of our own. -/
def nown (T : Rep α) (e : TypeId) (x : Tri × List α) : Assn := Buf T e x.1.1 x.1.2.1 x.1.2.2 x.2
def Nest (T : Rep α) (e eo : TypeId) (a : Option Addr) (m c : Nat) (S : List (List α)) : Assn := Exp (fun (xs : List (Tri × List α)) => xs.map (·.2) = S) fun xs => [Buf RTri eo a m c (xs.map (·.1)), Each (nown T e) xs]
/-- Slice k is brought forward: ts: the headers, xs: the other slices. -/
structure NFwd (T : Rep α) (e eo : TypeId) (a : Option Addr) (m c : Nat) (S : List (List α)) (k : Nat) (l : List α) (ts : List Tri) (a1 : Option Addr) (m1 c1 : Nat) (xs : List (Tri × List α)) : Prop where
  at_ : ts[k]? = some (a1, m1, c1)
  len : ts.length = S.length
  back : ∀ L, Ent (Buf RTri eo a m c ts :: Buf T e a1 m1 c1 l :: Each (nown T e) xs :: L) (Nest T e eo a m c S :: L)
  put : ∀ (a' : Option Addr) (m' c' : Nat) (l' : List α) (L : List Assn), Ent (Buf RTri eo a m c (ts.set k (a', m', c')) :: Buf T e a' m' c' l' :: Each (nown T e) xs :: L) (Nest T e eo a m c (S.set k l') :: L)
variable {S : List (List α)} {q : Nat} {l : List α} {eo : TypeId} {w : World}
theorem Nest.close {xs : List (Tri × List α)} (h : xs.map (·.2) = S) : Ent (Buf RTri eo a m c (xs.map (·.1)) :: Each (nown T e) xs :: L) (Nest T e eo a m c S :: L) :=
  Exp.close (ι := List (Tri × List α)) (p := fun xs => xs.map (·.2) = S) (A := fun xs => [Buf RTri eo a m c (xs.map (·.1)), Each (nown T e) xs]) xs h
theorem sep_nfwd (hs : Sep κ w (Nest T e eo a m c S :: L)) (hk : S[q]? = some l) : ∃ ts a1 m1 c1 xs, NFwd T e eo a m c S q l ts a1 m1 c1 xs ∧ Sep κ w (Buf RTri eo a m c ts :: Buf T e a1 m1 c1 l :: Each (nown T e) xs :: L) := by
  obtain ⟨xs, hx, hs⟩ := hs.openExp
  have hk' : (xs.map (·.2))[q]? = some l := by rw [hx]; exact hk
  rw [List.getElem?_map] at hk'
  cases hq : xs[q]? with
  | none => rw [hq] at hk'; cases hk'
  | some x =>
    obtain ⟨⟨a1, m1, c1⟩, l1⟩ := x
    rw [hq] at hk'; cases hk'
    have hlt : q < xs.length := (List.getElem?_eq_some_iff.1 hq).1
    refine ⟨xs.map (fun (x : Tri × List α) => x.1), a1, m1, c1, xs.eraseIdx q, ⟨by rw [List.getElem?_map, hq]; rfl, by rw [← hx]; simp, fun L => ?_, fun a' m' c' l' L => ?_⟩, hs.ent (Ent.frame _ (Each.take (f := nown T e) hq))⟩
    · exact Ent.trans (Ent.frame _ (Each.back' (f := nown T e) hq)) (Nest.close hx)
    · have h1 : (xs.set q ((a', m', c'), l')).map (·.2) = S.set q l' := by rw [List.map_set, hx]
      have h2 : (xs.map (·.1)).set q (a', m', c') = (xs.set q ((a', m', c'), l')).map (·.1) := by rw [List.map_set]
      rw [h2]
      exact Ent.trans (Ent.frame _ (Each.back (f := nown T e) (y := ((a', m', c'), l')) hlt)) (Nest.close h1)
theorem SG.nest (hp : Pick (Nest T e eo a m c S) L L1) (hk : S[q]? = some l) (h : ∀ ts a1 m1 c1 xs, NFwd T e eo a m c S q l ts a1 m1 c1 xs → SG P f n κ K k al (Buf RTri eo a m c ts :: Buf T e a1 m1 c1 l :: Each (nown T e) xs :: L1)) : SG P f n κ K k al L := fun a' w he hs => by
  obtain ⟨ts, a1, m1, c1, xs, hF, hs'⟩ := sep_nfwd (hs.ent hp) hk
  exact h ts a1 m1 c1 xs hF a' w he hs'
theorem RL.nest {ops : Array Oper} {rest : List Oper} (hp : Pick (Nest T e eo a m c S) L L1) (hk : S[q]? = some l) (h : ∀ ts a1 m1 c1 xs, NFwd T e eo a m c S q l ts a1 m1 c1 xs → RL P f n κ K k ops rest al (Buf RTri eo a m c ts :: Buf T e a1 m1 c1 l :: Each (nown T e) xs :: L1)) : RL P f n κ K k ops rest al L := fun a' w he hs => by
  obtain ⟨ts, a1, m1, c1, xs, hF, hs'⟩ := sep_nfwd (hs.ent hp) hk
  exact h ts a1 m1 c1 xs hF a' w he hs'
theorem Sep.nestLen (hs : Sep κ w L) (hp : Pick (Nest T e eo a m c S) L L1) : S.length = m := by
  obtain ⟨xs, hx, hs⟩ := (hs.ent hp).openExp
  have := (hs.buf Pick.here).1
  rw [← hx]; simpa using this
theorem Nest.nil : Ent L (Nest T e eo none 0 0 [] :: L) := Ent.trans (Ent.trans Each.nil Buf.nil) (Nest.close (xs := []) rfl)
theorem SG.openNest (hp : Pick (Nest T e eo a m c S) L L1) (h : ∀ ts xs, ts = xs.map (·.1) → xs.map (·.2) = S → SG P f n κ K k al (Buf RTri eo a m c ts :: Each (nown T e) xs :: L1)) : SG P f n κ K k al L := SG.openExp hp fun xs hx => h _ xs rfl hx
/-- One more. -/
theorem Nest.snoc {ts : List Tri} {xs : List (Tri × List α)} {a1 : Option Addr} {m1 c1 : Nat} (ht : ts = xs.map (·.1)) (hx : xs.map (·.2) = S) : Ent (Buf RTri eo a m c (ts ++ [(a1, m1, c1)]) :: Buf T e a1 m1 c1 l :: Each (nown T e) xs :: L) (Nest T e eo a m c (S ++ [l]) :: L) := by
  have h2 : ts ++ [(a1, m1, c1)] = (xs ++ [((a1, m1, c1), l)]).map (·.1) := by rw [ht]; simp
  rw [h2]
  exact Ent.trans (Ent.frame _ (Each.snoc (f := nown T e) (x := ((a1, m1, c1), l)))) (Nest.close (by simp [hx]))
end
end Go.Wk
namespace Go.Wk
section
variable {P : Program} {n : Nat} {κ : World} {al : List (Nat × Value)} {L : List Assn} {o : Oper} {a : Option Addr}
theorem V.fieldAt {s f off k : Nat} {x : Operand} {us : List Value} (ho : o.op = .fieldAddr s x f) (hx : ev al x = some (eptr a k)) (hf : FieldOff P s f off) (hm : At a k us ∈ L) : OpV P n κ al L o (eptr a (k + off)) := fun a' w he hs => by
  obtain ⟨z, hz, b, o', rfl, hr⟩ := hs.get_ro hm
  have hx' : ev al x = some (ptr b (o' + k)) := by rw [hx]; simp [eptr, addr_add]
  have := V.fieldAddr (κ := κ) (L := L) (n := n) ho hx' hf a' w he hs
  simpa [eptr, addr_add, Nat.add_assoc] using this
theorem V.loadAtF {T' k off : Nat} {x : Operand} {u : Value} {us : List Value} (ho : o.op = .load T' x) (hT : One P T') (hx : ev al x = some (eptr a (k + off))) (hm : At a k us ∈ L) (hu : us[off]? = some u) : OpV P n κ al L o u := fun a' w he hs => by
  obtain ⟨z, hz, b, o', rfl, hr⟩ := hs.get_ro hm
  have hcell := cell_of_row hz hr hu
  have hx' := he.ev hx
  simp [eptr, addr_add] at hx'
  rw [Nat.add_assoc] at hcell
  simp [execOp, ho, hx', Instr.loadAt, Instr.sureAddr, loadVar, hT.agg w, hcell]
end
end Go.Wk
namespace Go.Wk
section
variable {P : Program} {L L1 : List Assn} {α : Type} {T : Rep α} {a : Option Addr} {m c : Nat}
theorem rows_one_sl {z h : Frag} {l : List α} (hx : Sl T a m c l ∈ L) (H : Holds z L h) : (Rep.slice T).rows z [.slice a m c] [l] := Rep.rows.single (H.slr hx)
theorem Src.litSl {b E c' : Nat} {y : List α} (hp : Pick (Blk b E [.slice a m c]) L L1) (hm : Sl T a m c y ∈ L) : Src P L (Rep.slice T) (.slice (some ⟨b, 0, none⟩) 1 c') [y] :=
  Src.blk (l := [y]) hp (fun u hu => by simp at hu; subst hu; rfl) fun _ _ H => rows_one_sl hm H
/-- A literal of one slice, as a slice of our own. -/
theorem Buf.lit1 {b : Nat} {e : TypeId} {y : List α} (hp : Pick (Blk b e [.slice a m c]) L L1) (hm : Sl T a m c y ∈ L) : Ent L (Buf (Rep.slice T) e (some ⟨b, 0, none⟩) 1 1 [y] :: L1) :=
  Buf.of_els (l := [y]) hp rfl rfl (by decide) fun _ _ H => rows_one_sl hm H
theorem V.loadTri {n : Nat} {κ : World} {al : List (Nat × Value)} {o : Oper} {T' j e : Nat} {x : Operand} {ts : List Tri} {a1 : Option Addr} {m1 c1 : Nat} (ho : o.op = .load T' x) (hT : One P T') (hx : ev al x = some (eptr a (j * RTri.sz))) (hp : Pick (Buf RTri e a m c ts) L L1) (hy : ts[j]? = some (a1, m1, c1)) : OpV P n κ al L o (.slice a1 m1 c1) := V.loadBufSc (val := tv) (ok := fun _ => True) (h1 := fun _ => rfl) (y := (a1, m1, c1)) ho hT hx hp hy
end
end Go.Wk
namespace Go.Wk
section
variable {P : Program} {f : FuncId} {n : Nat} {κ : World} {K : Post} {k : List Item} {al : List (Nat × Value)} {L L1 : List Assn} {o : Oper} {α : Type} {T : Rep α} {a : Option Addr} {m c : Nat} {l : List α}
theorem V.sliceTo {T' E sz hi : Nat} {x : Operand} {z : Option Operand} (ho : o.op = .slice T' x none z none) (hT : SliceTy P T' E sz) (hx : ev al x = some (.slice a m c)) (hhi : BoundOf al z m hi) (h2 : hi ≤ c) : OpV P n κ al L o (.slice a hi c) := V.of_run fun a' w he => by
  obtain ⟨ti, h5, h6, rfl⟩ := hT
  have hb := run_sliceBounds (P := P) he (b := true) (len := m) (cap := c) (x := none) (lo := 0) rfl hhi (by omega) h2 w
  have hadd : a.map (fun x : Addr => x.add 0) = a := by
    cases a with
    | none => rfl
    | some ad => simp [Addr.add]
  simp only [Option.map_none] at hb
  simp [execOp, ho, Instr.sliceAt, Instr.slice, he.ev hx, run_underlying h5, hb, run_sizeOf_info h6]
  intro _
  exact hadd
theorem SG.elemDt {sz : Nat} {g : α → List Value} {ok : α → Prop} {hl0 : ∀ x, ok x → (g x).length = sz} {h10 : ∀ x, ∀ u ∈ g x, u.oneCell' = true} {j : Nat} {y : α} (hm : Sl (Rep.dt sz g ok hl0 h10) a m c l ∈ L) (hy : l[j]? = some y) (h : ok y → SG P f n κ K k al (At a (j * sz) (g y) :: L)) : SG P f n κ K k al L := fun a' w he ⟨s, z, hh, d1, d2, d3, H⟩ => by
  obtain ⟨_, _, z1, hz1, _, _, _, hr, _⟩ := Pick.ro hm z hh H
  obtain ⟨us, ⟨g1, g1'⟩, g2, g3⟩ := (hr.mono hz1).elem hy
  subst g1
  exact h g1' a' w he ⟨s, z, hh, d1, d2, d3, Holds.add_ro g3 H⟩
end
end Go.Wk
namespace Go.Wk
section
variable {P : Program} {f : FuncId} {n : Nat} {κ : World} {K : Post} {k : List Item} {al : List (Nat × Value)} {L L1 : List Assn} {α : Type} {T : Rep α} {a : Option Addr} {m c : Nat} {l : List α}
/-- The slice nil. -/
theorem Sl.nil : Ent L (Sl T none 0 0 [] :: L) := fun _ _ H => Holds.add_ro ⟨rfl, Nat.le_refl _, by omega, .inl rfl⟩ H
theorem Buf.lit1' {b : Nat} {e : TypeId} {us : List Value} {y : α} (hp : Pick (Blk b e us) L L1) (hl : us.length = T.sz) (hr : ∀ z, T.rep z us y) : Ent L (Buf T e (some ⟨b, 0, none⟩) 1 1 [y] :: L1) :=
  Buf.of_els (l := [y]) hp (by simpa using hl) rfl (by decide) fun z _ _ => Rep.rows.single (hr z)
theorem SG.elemR {j : Nat} {y : α} {ι : Type} {p : ι → Prop} {us : ι → List Value} {R : ι → List (Frag → Prop)} (hm : Sl T a m c l ∈ L) (hy : l[j]? = some y) (hR : ∀ z cs, T.rep z cs y → ∃ i, p i ∧ cs = us i ∧ ∀ r ∈ R i, r z)
    (h : ∀ i, p i → SG P f n κ K k al ((R i).map ro ++ At a (j * T.sz) (us i) :: L)) : SG P f n κ K k al L := fun a' w he ⟨s, z, hh, d1, d2, d3, H⟩ => by
  obtain ⟨_, _, z1, hz1, _, _, _, hr, _⟩ := Pick.ro hm z hh H
  obtain ⟨cs, g1, _, g3⟩ := (hr.mono hz1).elem hy
  obtain ⟨i, hi, rfl, hri⟩ := hR z cs g1
  refine h i hi a' w he ⟨s, z, hh, d1, d2, d3, ?_⟩
  have H2 := Holds.add_ro (R := fun z => ∃ b o, a = some ⟨b, o, none⟩ ∧ Row z b (o + j * T.sz) (us i)) g3 H
  generalize R i = rs at *
  induction rs with
  | nil => exact H2
  | cons r rs ih => exact Holds.add_ro (hri r (List.mem_cons_self ..)) (ih (fun r' h' => hri r' (List.mem_cons_of_mem _ h')))
end
end Go.Wk
namespace Go.Wk
section
variable {P : Program} {n : Nat} {κ : World} {al : List (Nat × Value)} {L L1 : List Assn} {o : Oper} {a : Option Addr} {m c : Nat} {e : TypeId}
/-- copy into a slice of bytes of our own. -/
theorem E.copyBuf {dT E : TypeId} {x y : Operand} {xs : Array Operand} {ts : Array TypeId} {yv : Value} {l l2 : List UInt8} (ho : o.op = .call ⟨.builtin .copy, xs, ts⟩) (hxs : xs = #[x, y]) (hts : ts[0]? = some dT) (hdT : ElemTy P dT E 1 1) (hx : ev al x = some (.slice a m c)) (hy : ev al y = some yv)
    (hp : Pick (Buf R8 e a m c l) L L1) (hsrc : Src P L R8 yv l2) :
    OpE P n κ al L o fun v M => v = vI (min l2.length m : Nat) ∧ M = Buf R8 e a m c (l2.take (min l2.length m) ++ l.drop (min l2.length m)) :: L1 := OpE.of_run fun a' w he hs => by
  subst hxs
  have hs0 := hs
  obtain ⟨s0, z, h, d1, d2, d3, H⟩ := hs
  obtain ⟨cs2, hrows2, hone, hread⟩ := hsrc z h H
  obtain ⟨hfirst, hlen⟩ := hread w d2 d3
  obtain ⟨rfl, _⟩ := rows_sc.1 hrows2
  have hs2 := hs0.ent hp
  obtain ⟨g1, g2, g3⟩ := hs2.buf Pick.here
  obtain ⟨ti, z2, t1, t2, t3, _, _, _⟩ := hdT
  generalize hkdef : min l2.length m = k
  have hk1 : k ≤ l2.length := by omega
  have hk2 : k ≤ m := by omega
  have hf := hfirst k hk1
  simp only [show R8.sz = 1 from rfl, Nat.mul_one] at hf
  have hmin : Nat.min l2.length m = k := hkdef
  have hx' := he.ev hx
  rcases hs2.open_buf with ⟨rfl, rfl, rfl, rfl⟩ | ⟨b, pre, cs, rest, fz, rfl, hfz, hl, hcs, hsF⟩
  · have hk0 : k = 0 := by omega
    subst hk0
    refine ⟨_, w, _, .inl ?_, ⟨rfl, rfl⟩, by simpa using hs2⟩
    simp [execOp, ho, hts, resolve, invoke, builtin, Builtin.copy_, hx', he.ev hy, run_underlying t1, hlen, run_sizeOf_info t2, t3, hf, goInt]
  · obtain ⟨zz, hz, hrows⟩ := hsF.get_ro (R := fun z => R8.rows z cs l) (.tail _ (.head _))
    obtain ⟨rfl, _⟩ := rows_sc.1 hrows
    have hll : l.length = m := g1
    have hul : ((l2.map v8).take k).length = k := by simp; omega
    obtain ⟨w', hst, hsys, hb', hk'⟩ := run_storeCells_row (P := P) ((l2.map v8).take k) pre.length (pre ++ (l.map v8 ++ rest)) w hsF.blkF (fun q h1 h2 => hfz q (by omega) (by simp; omega)) (by simp only [List.length_append, hul, List.length_map]; omega) (fun u hu => hone u (List.mem_of_mem_take hu)) pre.length 0 (by omega)
    have hset : setAt (pre ++ (l.map v8 ++ rest)) pre.length ((l2.map v8).take k) = pre ++ ((l2.take k ++ l.drop k).map v8 ++ rest) := by
      have := setAt_mid ((l2.map v8).take k) pre ((l.map v8).take k) ((l.map v8).drop k ++ rest) (by simp; omega)
      rw [List.append_assoc pre, ← List.append_assoc ((l.map v8).take k), List.take_append_drop] at this
      rw [this]
      simp [List.map_append, List.map_take, List.map_drop]
    rw [hset] at hb'
    have hs3 := hsF.changeF hsys hb' hk'
    refine ⟨_, w', _, .inl ?_, ⟨rfl, rfl⟩, ?_⟩
    · simp [execOp, ho, hts, resolve, invoke, builtin, Builtin.copy_, hx', he.ev hy, run_underlying t1, hlen, run_sizeOf_info t2, t3, hmin, hf, hst, goInt]
    · refine hs3.ent (Ent.trans (Ent.frame _ (?_ : Ent _ (ro (fun z => R8.rows z ((l2.take k ++ l.drop k).map v8) (l2.take k ++ l.drop k)) :: L1))) (Buf.closeO (by simp; omega) g2 g3 (fun i hp hi => hfz i hp ?_) ?_))
      · rintro z h ⟨h1, h2, z1, f1, f2, f3, f4, q, H'⟩
        exact Holds.add_ro (rows_sc.2 ⟨rfl, fun _ _ => trivial⟩) (Holds.mono (Frag.le.refl _) f4 H')
      · simp only [List.length_append, List.length_take, List.length_drop, List.length_map] at hi ⊢; omega
      · rw [← hl]; simp only [List.length_append, List.length_take, List.length_drop, List.length_map]; omega
end
end Go.Wk

namespace Go.Wk
section
variable {P : Program} {f : FuncId} {n : Nat} {κ : World} {K : Post} {k : List Item} {al : List (Nat × Value)} {L L1 : List Assn} {o : Oper}
theorem B.shl32 {x : UInt32} {k' : IntKind} {c : Int} (d : UInt32) (h0 : 0 ≤ c) (h1 : c < 32) (hd : (d.toNat : Int) = c) : BinRun P .shl (v32 x) (.int k' c) (v32 (x <<< d)) := by
  have h := B.shl (P := P) (k := .u32) (k' := k') (x := x.toNat) (y := c) h0
  have e : IntKind.u32.wrap ((x.toNat : Int) * 2 ^ (min c.toNat IntKind.u32.bits)) = ((x <<< d).toNat : Int) := by
    have hc : c.toNat = d.toNat := by omega
    have hb : IntKind.u32.bits = 32 := rfl
    have hd32 : d.toNat < 32 := by omega
    rw [IntKind.wrap_u32, hc, hb, Nat.min_eq_left (by omega), UInt32.toNat_shiftLeft, Nat.mod_eq_of_lt hd32, Nat.shiftLeft_eq]
    simp
  rwa [e] at h
theorem B.shr32 {x : UInt32} {k' : IntKind} {c : Int} (d : UInt32) (h0 : 0 ≤ c) (h1 : c < 32) (hd : (d.toNat : Int) = c) : BinRun P .shr (v32 x) (.int k' c) (v32 (x >>> d)) := by
  have h := B.shr (P := P) (k := .u32) (k' := k') (x := x.toNat) (y := c) h0
  have e : ((x.toNat : Int)).fdiv (2 ^ (min c.toNat IntKind.u32.bits)) = ((x >>> d).toNat : Int) := by
    have hc : c.toNat = d.toNat := by omega
    have hb : IntKind.u32.bits = 32 := rfl
    have hd32 : d.toNat < 32 := by omega
    rw [hc, hb, Nat.min_eq_left (by omega), UInt32.toNat_shiftRight, Nat.mod_eq_of_lt hd32, Nat.shiftRight_eq_div_pow, Int.fdiv_eq_ediv_of_nonneg _ (by exact Int.le_of_lt (Int.pow_pos (by decide)))]
    simp
  rwa [e] at h
theorem V.indexW {T len E0 j b : Nat} {kk : IntKind} {i : Int} {x y : Operand} (ho : o.op = .indexAddr T x y) (hT : ArrTy P T len E0 1) (hx : ev al x = some (ptr b 0)) (hy : ev al y = some (.int kk i)) (hj : i = (j : Int)) (h1 : j < len) :
    OpV P n κ al L o (ptr b j) := by
  subst hj
  have h := V.indexArr (κ := κ) (L := L) (n := n) ho hT hx hy (by omega) (by omega)
  simpa using h
theorem V.loadW {T' E0 b j : Nat} {x : Operand} {l : List UInt32} {y : UInt32} (ho : o.op = .load T' x) (hT : One P T') (hx : ev al x = some (ptr b j)) (hp : Pick (Blk b E0 (l.map v32)) L L1) (hy : l[j]? = some y) : OpV P n κ al L o (v32 y) :=
  V.load ho hT hx hp (by simp [hy])
theorem E.storeW {T E0 b j : Nat} {x y : Operand} {l : List UInt32} {u : UInt32} (ho : o.op = .store T x y) (hx : ev al x = some (ptr b j)) (hy : ev al y = some (v32 u)) (hT : ∃ ti, P.info? T = some ti ∧ ti.size = 1) (hp : Pick (Blk b E0 (l.map v32)) L L1) (hl : j < l.length) :
    OpE P n κ al L o fun _ M => M = Blk b E0 ((l.set j u).map v32) :: L1 := by
  have h := E.store (n := n) (κ := κ) (al := al) (L1 := L1) (u := v32 u) [v32 u] ho hx hy rfl (m := 1) rfl hT hp (by simp [Value.oneCell']) (by simp; omega)
  have e : setAt (l.map v32) j [v32 u] = (l.set j u).map v32 := by
    simp [setAt, List.map_set]
  rwa [e] at h
theorem Blk.zeros {b E0 m : Nat} : Ent (Blk b E0 (List.replicate m (.int .u32 0)) :: L) (Blk b E0 ((List.replicate m (0 : UInt32)).map v32) :: L) := by
  rw [List.map_replicate]; exact Ent.refl _
/-- An element of an array value. -/
theorem V.indexV {T' E0 len j : Nat} {kk : IntKind} {i : Int} {x y : Operand} {l : List UInt32} {u : UInt32} (ho : o.op = .index T' x y) (hT : ArrTy P T' len E0 1) (hE : One P E0) (hl : l.length = len) (hx : ev al x = some (.agg (l.map v32).toArray)) (hy : ev al y = some (.int kk i)) (hj : i = (j : Int)) (hu : l[j]? = some u) :
    OpV P n κ al L o (v32 u) := V.of_run fun a' w he => by
  subst hj
  obtain ⟨ti, h1, h2, h3⟩ := hT
  obtain ⟨d, ti2, g1, g2, g3, g4⟩ := hE
  have hlt : j < l.length := (List.getElem?_eq_some_iff.1 hu).1
  have hlt2 : j < len := by omega
  have ha := One.agg ⟨d, ti2, g1, g2, g3, g4⟩ w
  have hp : (part E0 (l.map v32).toArray j).run P w = .ok (v32 u) w := by
    unfold part
    simp [ha, hu]
  simp [execOp, ho, Instr.index, he.ev hx, he.ev hy, asIntOf, run_underlying h1, run_sizeOf_info h2, h3, hlt2, hp]
end
end Go.Wk

namespace Go.Wk
section
variable {P : Program} {n : Nat} {κ : World} {al : List (Nat × Value)} {L L1 : List Assn} {o : Oper} {a : Option Addr} {m c k : Nat} {l : List UInt8} {e : TypeId}
theorem zeroCells_one (k : Nat) : Builtin.zeroCells #[Value.int .u8 0] k = ((List.replicate k (0 : UInt8)).map v8).toArray := by
  unfold Builtin.zeroCells
  apply Array.ext
  · simp
  · intro i h1 h2
    simp at h1
    simp [Nat.mod_one]
theorem run_appendZ {T1 Ti Ts ty bytes : Nat} {ik : IntKind} {w : World} (hT : ElemTy P T1 e 1 bytes) (hz : Zero P e [.int .u8 0]) (hi : P.underlying Ti = some (.int ik)) (hs : P.underlying Ts = some .string) (hk : k * bytes ≤ 1000000000) (hk2 : k ≤ 1000000000)
    (hm : (m + k) * bytes ≤ 140737488355328) (h63 : m + k ≤ 9223372036854775807) (hmc : m ≤ c) :
    (Builtin.append_ #[T1, Ti] ty #[.slice a m c, vI k]).run P w = (Builtin.append_ #[T1, Ts] ty #[.slice a m c, vS (List.replicate k 0)]).run P w := by
  obtain ⟨i, zz, h1, h2, h3, h4, h5, h6⟩ := hT
  obtain ⟨i', zz', g1, g2, g3⟩ := hz
  rw [h2] at g1; cases g1
  rw [h5] at g2; cases g2
  subst h4
  have hw : IntKind.i64.wrap (k : Int) = (k : Int) := IntWalk.i64_in _ ⟨by omega, by omega⟩
  have hl : ∀ w, (Builtin.lenOf (vS (List.replicate k 0))).run P w = .ok k w := fun w => by
    have : (⟨⟨List.replicate k (0 : UInt8)⟩⟩ : ByteArray).size = k := by
      show (List.replicate k (0 : UInt8)).length = k
      simp
    show (Builtin.lenOf (.string ⟨⟨List.replicate k 0⟩⟩)).run P w = _
    simp only [Builtin.lenOf]
    rw [this]; rfl
  have hf : ∀ w, (Builtin.firstCells 1 k (vS (List.replicate k 0))).run P w = .ok (Builtin.zeroCells #[Value.int .u8 0] k) w := fun w => by
    have hsrc := (Src.str (P := P) (L := []) (s := List.replicate k 0)) Frag.emp Frag.emp trivial
    obtain ⟨cs, hr, _, hrd⟩ := hsrc
    obtain ⟨h7, _⟩ := hrd w (Frag.emp_le _) (Frag.emp_le _)
    have h8 := h7 k (by simp)
    obtain ⟨rfl, _⟩ := rows_sc.1 hr
    rw [zeroCells_one]
    rw [show R8.sz = 1 from rfl, Nat.mul_one, List.take_of_length_le (by simp)] at h8
    exact h8
  have hz0 : k = 0 → Builtin.zeroCells #[Value.int .u8 0] k = #[] := fun e => by subst e; simp [Builtin.zeroCells]
  have hbig : ¬ (281474976710656 < (k : Int) * (i.bytes : Int)) := by
    have : ((k * i.bytes : Nat) : Int) ≤ 1000000000 := by omega
    rw [Int.natCast_mul] at this; omega
  have hneg : ¬ ((k : Int) < 0) := by omega
  have hn63 : ¬ (9223372036854775807 < ((m : Int) + (k : Int))) := by omega
  by_cases hk0 : k = 0
  · have hw0 : IntKind.i64.wrap 0 = 0 := rfl
    have hl0 := hl
    have hf0 := hf
    have he := hz0 hk0
    subst hk0
    rw [he] at hf0
    simp only [List.replicate_zero] at hl0 hf0 ⊢
    simp [Builtin.append_, run_underlying h1, run_underlying hi, run_underlying hs, sizeOf, typeInfo, zeroValue, h2, h3, h5, g3, hl0, hf0, asInt, asIntOf, hw0, hmc]
  · by_cases hc : m + k ≤ c
    · simp [Builtin.append_, run_underlying h1, run_underlying hi, run_underlying hs, sizeOf, typeInfo, zeroValue, h2, h3, h5, g3, hl, hf, asInt, asIntOf, hw, hbig, hneg, hk0, hc]
    · have h48 : ¬ (281474976710656 < Builtin.nextslicecap (m + k) c * i.bytes) := by have := growslice_fits (by omega : c < m + k) hm; omega
      simp [Builtin.append_, run_underlying h1, run_underlying hi, run_underlying hs, sizeOf, typeInfo, zeroValue, h2, h3, h5, g3, hl, hf, asInt, asIntOf, hw, hbig, hneg, hn63, hk0, hc, h48]
theorem E.appendZ {T1 Ti Ts bytes : Nat} {ik : IntKind} {xs : Array Operand} {ts : Array TypeId} {sx xx : Operand} (ho : o.op = .call ⟨.builtin .append, xs, ts⟩) (hxs : xs = #[sx, xx]) (hts : ts = #[T1, Ti]) (hT : ElemTy P T1 e 1 bytes) (hz : Zero P e [.int .u8 0]) (hi : P.underlying Ti = some (.int ik)) (hs : P.underlying Ts = some .string)
    (hx : ev al sx = some (.slice a m c)) {i : Int} (hy : ev al xx = some (vI i)) (hik : i = (k : Int)) (hp : Pick (Buf R8 e a m c l) L L1) (hk : k * bytes ≤ 1000000000) (hk2 : k ≤ 1000000000) (h47 : (m + k) * bytes ≤ 140737488355328) (h63 : m + k ≤ 9223372036854775807) :
    OpE P n κ al L o fun v M => ∃ a' c', v = .slice a' (m + k) c' ∧ M = Buf R8 e a' (m + k) c' (l ++ List.replicate k 0) :: L1 := OpE.of_run fun a' w he hsep => by
  subst hxs; subst hts; subst hik
  obtain ⟨_, hmc, _⟩ := hsep.buf hp
  have hlr : (List.replicate k (0 : UInt8)).length = k := List.length_replicate
  obtain ⟨a2, c2, w', hr, hs'⟩ := sep_append (P := P) (ty := o.type) (T := R8) hT (.inr hs) hp (Src.str (s := List.replicate k 0)) (by rw [hlr]; exact h47) (by rw [hlr]; exact h63) hsep
  rw [hlr] at hr hs'
  rw [← run_appendZ hT hz hi hs hk hk2 h47 h63 hmc] at hr
  refine ⟨_, w', _, .inl ?_, ⟨a2, c2, rfl, rfl⟩, hs'⟩
  simp [execOp, ho, resolve, invoke, builtin, he.ev hx, he.ev hy, hr]

/- equality of arrays of numbers -/
section
variable {α : Type} {f : α → Int} {ik : IntKind}
theorem run_eqItems_int {d E0 : Nat} (hE : One P E0) (hu : P.underlying E0 = some (.int ik)) (l l' : List α) (hf : ∀ x y, f x = f y → x = y) [DecidableEq α] (w : World) : ∀ is : List Nat, (∀ i ∈ is, i < l.length ∧ i < l'.length) →
    (Op.eqItems (d + 1) E0 1 (l.map fun x => Value.int ik (f x)).toArray (l'.map fun x => Value.int ik (f x)).toArray is).run P w = .ok (is.all fun i => decide (l[i]? = l'[i]?)) w
  | [], _ => by simp [Op.eqItems]
  | i :: is, h => by
    have ih := run_eqItems_int (d := d) hE hu l l' hf w is (fun j hj => h j (List.mem_cons_of_mem _ hj))
    obtain ⟨h1, h2⟩ := h i (List.mem_cons_self ..)
    have ha := hE.agg w
    have p1 : (part E0 (l.map fun x => Value.int ik (f x)).toArray (i * 1)).run P w = .ok (.int ik (f l[i])) w := by
      unfold part; simp [ha, h1]
    have p2 : (part E0 (l'.map fun x => Value.int ik (f x)).toArray (i * 1)).run P w = .ok (.int ik (f l'[i])) w := by
      unfold part; simp [ha, h2]
    have p3 : (Op.equalIn (d + 1) E0 (.int ik (f l[i])) (.int ik (f l'[i]))).run P w = .ok (f l[i] == f l'[i]) w := by
      simp [Op.equalIn, run_underlying hu]
    simp only [Op.eqItems, Sem.run_bind, p1, p2, p3, Result.andThen_ok]
    by_cases e : l[i] = l'[i]
    · simp [e, ih, h1, h2]
    · have : ¬ f l[i] = f l'[i] := fun q => e (hf _ _ q)
      simp [e, this, h1, h2]
theorem all_range [DecidableEq α] (l l' : List α) {m : Nat} (h1 : l.length = m) (h2 : l'.length = m) : ((List.range m).all fun i => decide (l[i]? = l'[i]?)) = decide (l = l') := by
  rw [Bool.eq_iff_iff]
  simp only [List.all_eq_true, List.mem_range, decide_eq_true_eq]
  constructor
  · intro h
    apply List.ext_getElem?
    intro i
    by_cases hi : i < m
    · exact h i hi
    · rw [List.getElem?_eq_none (by omega), List.getElem?_eq_none (by omega)]
  · rintro rfl i _; rfl
theorem run_equal_arr {T' E0 m : Nat} (hT : ArrTy P T' m E0 1) (hE : One P E0) (hu : P.underlying E0 = some (.int ik)) (hc : P.cellsOf E0 = 1) [DecidableEq α] (l l' : List α) (hf : ∀ x y, f x = f y → x = y) (h1 : l.length = m) (h2 : l'.length = m) (w : World) :
    (Op.equal T' (.agg (l.map fun x => Value.int ik (f x)).toArray) (.agg (l'.map fun x => Value.int ik (f x)).toArray)).run P w = .ok (decide (l = l')) w := by
  obtain ⟨ti, e1, e2, e3⟩ := hT
  show (Op.equalIn (9998 + 1 + 1) T' _ _).run P w = _
  rw [run_equalIn_array w _ _ _ e1 e2, hc, run_eqItems_int hE hu l l' hf w _ (fun i hi => by rw [List.mem_range] at hi; omega), all_range l l' h1 h2]
theorem V.eqlArr {T' T2 E0 m : Nat} {x y : Operand} (ho : o.op = .binOp .eql T' x y T2) (hT : ArrTy P T' m E0 1) (hE : One P E0) (hu : P.underlying E0 = some (.int ik)) (hc : P.cellsOf E0 = 1) (hg : P.eqGuardType P.depth T' = false) [DecidableEq α] {l l' : List α} (hf : ∀ x y, f x = f y → x = y) (h1 : l.length = m) (h2 : l'.length = m)
    (hx : ev al x = some (.agg (l.map fun x => Value.int ik (f x)).toArray)) (hy : ev al y = some (.agg (l'.map fun x => Value.int ik (f x)).toArray)) : OpV P n κ al L o (.bool (decide (l = l'))) := V.of_run fun a' w he => by
  have h3 := run_equal_arr hT hE hu hc l l' hf h1 h2 w
  have h4 : (eqGuard .eql T' x y (.agg (l.map fun x => Value.int ik (f x)).toArray) (.agg (l'.map fun x => Value.int ik (f x)).toArray)).run P w = .ok () w := by
    simp [eqGuard, hg]
  have h5 : (binOp .eql T' (.agg (l.map fun x => Value.int ik (f x)).toArray) (.agg (l'.map fun x => Value.int ik (f x)).toArray)).run P w = .ok (.bool (decide (l = l'))) w := by
    simp only [binOp, Sem.run_bind, h3]; rfl
  simp only [execOp, ho, he.ev hx, he.ev hy, Sem.run_bind, h4, Result.andThen_ok, h5]
  rfl
theorem V.neqArr {T' T2 E0 m : Nat} {x y : Operand} (ho : o.op = .binOp .neq T' x y T2) (hT : ArrTy P T' m E0 1) (hE : One P E0) (hu : P.underlying E0 = some (.int ik)) (hc : P.cellsOf E0 = 1) (hg : P.eqGuardType P.depth T' = false) [DecidableEq α] {l l' : List α} (hf : ∀ x y, f x = f y → x = y) (h1 : l.length = m) (h2 : l'.length = m)
    (hx : ev al x = some (.agg (l.map fun x => Value.int ik (f x)).toArray)) (hy : ev al y = some (.agg (l'.map fun x => Value.int ik (f x)).toArray)) : OpV P n κ al L o (.bool (decide (l ≠ l'))) := V.of_run fun a' w he => by
  have h3 := run_equal_arr hT hE hu hc l l' hf h1 h2 w
  have h4 : (eqGuard .neq T' x y (.agg (l.map fun x => Value.int ik (f x)).toArray) (.agg (l'.map fun x => Value.int ik (f x)).toArray)).run P w = .ok () w := by
    simp [eqGuard, hg]
  have h5 : (binOp .neq T' (.agg (l.map fun x => Value.int ik (f x)).toArray) (.agg (l'.map fun x => Value.int ik (f x)).toArray)).run P w = .ok (.bool (decide (l ≠ l'))) w := by
    simp only [binOp, Sem.run_bind, h3]
    by_cases e : l = l' <;> simp [e]
  simp only [execOp, ho, he.ev hx, he.ev hy, Sem.run_bind, h4, Result.andThen_ok, h5]
  rfl
theorem inj8 (x y : UInt8) (h : (x.toNat : Int) = (y.toNat : Int)) : x = y := UInt8.toNat_inj.1 (by omega)
theorem inj32 (x y : UInt32) (h : (x.toNat : Int) = (y.toNat : Int)) : x = y := UInt32.toNat_inj.1 (by omega)
end
/- bytes in arrays of our own -/
theorem E.storeB {T E0 b j : Nat} {x y : Operand} {l : List UInt8} {u : UInt8} (ho : o.op = .store T x y) (hx : ev al x = some (ptr b j)) (hy : ev al y = some (v8 u)) (hT : ∃ ti, P.info? T = some ti ∧ ti.size = 1) (hp : Pick (Blk b E0 (l.map v8)) L L1) (hl : j < l.length) :
    OpE P n κ al L o fun _ M => M = Blk b E0 ((l.set j u).map v8) :: L1 := by
  have h := E.store (n := n) (κ := κ) (al := al) (L1 := L1) (u := v8 u) [v8 u] ho hx hy rfl (m := 1) rfl hT hp (by simp [Value.oneCell']) (by simp; omega)
  have e : setAt (l.map v8) j [v8 u] = (l.set j u).map v8 := by
    simp [setAt, List.map_set]
  rwa [e] at h
theorem V.loadB {T' E0 b j : Nat} {x : Operand} {l : List UInt8} {y : UInt8} (ho : o.op = .load T' x) (hT : One P T') (hx : ev al x = some (ptr b j)) (hp : Pick (Blk b E0 (l.map v8)) L L1) (hy : l[j]? = some y) : OpV P n κ al L o (v8 y) :=
  V.load ho hT hx hp (by simp [hy])
theorem V.indexV8 {T' E0 len j : Nat} {kk : IntKind} {i : Int} {x y : Operand} {l : List UInt8} {u : UInt8} (ho : o.op = .index T' x y) (hT : ArrTy P T' len E0 1) (hE : One P E0) (hl : l.length = len) (hx : ev al x = some (.agg (l.map v8).toArray)) (hy : ev al y = some (.int kk i)) (hj : i = (j : Int)) (hu : l[j]? = some u) :
    OpV P n κ al L o (v8 u) := V.of_run fun a' w he => by
  subst hj
  obtain ⟨ti, h1, h2, h3⟩ := hT
  have hlt : j < l.length := (List.getElem?_eq_some_iff.1 hu).1
  have hlt2 : j < len := by omega
  have ha := hE.agg w
  have hp : (part E0 (l.map v8).toArray j).run P w = .ok (v8 u) w := by
    unfold part
    simp [ha, hu]
  simp [execOp, ho, Instr.index, he.ev hx, he.ev hy, asIntOf, run_underlying h1, run_sizeOf_info h2, h3, hlt2, hp]
/-- A struct value's part that is a row of cells. -/
theorem V.fieldAgg {T' q : Nat} {x : Operand} {fs : Array Field} {fd : Field} {m' : Nat} {cs us : List Value} (ho : o.op = .field T' x q) (hT : P.underlying T' = some (.struct fs)) (hq : fs[q]? = some fd) (hA : Agg P fd.type m') (hx : ev al x = some (.agg cs.toArray)) (hu : (cs.drop fd.offset).take m' = us) : OpV P n κ al L o (.agg us.toArray) := V.of_run fun a' w he => by
  have hg := hA.agg w
  obtain ⟨d, ti, h1, h2, h3, h4⟩ := hA
  subst hu
  have hp : (part fd.type cs.toArray fd.offset).run P w = .ok (.agg ((cs.drop fd.offset).take m').toArray) w := by
    unfold part
    simp [hg, run_sizeOf_info h3, h4]
  simp [execOp, ho, Instr.field, he.ev hx, run_underlying hT, hq, asAgg, hp]
theorem u32to8 (x : UInt32) : UInt8.ofNat (((x.toNat : Int)) % 256).toNat = x.toUInt8 := by
  apply UInt8.toNat_inj.1
  rw [UInt8.toNat_ofNat', UInt32.toNat_toUInt8]; omega
theorem u64to8 (x : UInt64) : UInt8.ofNat (((x.toNat : Int)) % 256).toNat = x.toUInt8 := by
  apply UInt8.toNat_inj.1
  rw [UInt8.toNat_ofNat', UInt64.toNat_toUInt8]; omega
theorem B.shr64' {x : UInt64} {k' : IntKind} {c : Int} (d : UInt64) (h0 : 0 ≤ c) (h1 : c < 64) (hd : (d.toNat : Int) = c) : BinRun P .shr (v64 x) (.int k' c) (v64 (x >>> d)) := by
  have h := B.shr (P := P) (k := .u64) (k' := k') (x := x.toNat) (y := c) h0
  have e : ((x.toNat : Int)).fdiv (2 ^ (min c.toNat IntKind.u64.bits)) = ((x >>> d).toNat : Int) := by
    have hc : c.toNat = d.toNat := by omega
    have hb : IntKind.u64.bits = 64 := rfl
    have hd64 : d.toNat < 64 := by omega
    rw [hc, hb, Nat.min_eq_left (by omega), UInt64.toNat_shiftRight, Nat.mod_eq_of_lt hd64, Nat.shiftRight_eq_div_pow, Int.fdiv_eq_ediv_of_nonneg _ (by exact Int.le_of_lt (Int.pow_pos (by decide)))]
    simp
  rwa [e] at h
/-- make([]T, 0, m). -/
theorem E.make0 {α : Type} {T : Rep α} {e : TypeId} {m : Nat} {T' bytes : Nat} {x y : Operand} {i : Int} {z0 : Value} {x0 : α} (ho : o.op = .makeSlice T' x y) (hT : ElemTy P T' e T.sz bytes) (hz : Zero P e (List.replicate T.sz z0)) (hx : ev al x = some (.int .i64 0)) (hy : ev al y = some (.int .i64 i)) (hi : i = (m : Int)) (hm : m * bytes ≤ 140737488355328) (h63 : m ≤ 9223372036854775807)
    (hrep : ∀ z, T.rep z (List.replicate T.sz z0) x0) :
    OpE P n κ al L o fun v M => ∃ b, v = .slice (some ⟨b, 0, none⟩) 0 m ∧ M = Buf T e (some ⟨b, 0, none⟩) 0 m [] :: L := OpE.of_run fun a' w he hs => by
  subst hi
  obtain ⟨ti, z, h1, h2, h3, h4, h5, h6⟩ := hT
  obtain ⟨ti', z', q1, q2, q3⟩ := hz
  rw [h2] at q1; cases q1
  rw [h5] at q2; cases q2
  have hlarge : ((ti.bytes : Int) * (m : Int)) ≤ 281474976710656 := by
    rw [h4, Int.mul_comm, ← Int.natCast_mul]; omega
  have hr := run_make (P := P) w T' e ti z h1 h2 h5 .i64 .i64 0 m (by omega) (by omega) hlarge (by omega)
  simp only [Int.toNat_natCast, h3] at hr
  have hcells : madeCells z.cells (m * T.sz) = (List.replicate (m * T.sz) z0).toArray := by
    rw [q3]
    unfold madeCells
    apply Array.ext
    · simp
    · intro i g1 g2
      simp at g1
      have hsz : 0 < T.sz := Nat.pos_of_ne_zero fun h => by rw [h] at g1; simp at g1
      have : i % T.sz < T.sz := Nat.mod_lt _ hsz
      simp [getElem!_pos, this]
  rw [hcells] at hr
  have hrun : (execOp a'.eval o).run P w = .ok (.value (.slice (some ⟨w.heap.size, 0, none⟩) 0 m)) (w.alloc (.cells (List.replicate (m * T.sz) z0).toArray e)) := by
    simp only [execOp, ho, he.ev hx, he.ev hy]
    simp only [Sem.run_bind, hr]
    rfl
  have hs' := hs.alloc (cs := List.replicate (m * T.sz) z0) (T := e)
  refine ⟨_, _, _, .inl hrun, ⟨w.heap.size, rfl, rfl⟩, hs'.ent ((Buf.of_blk (l := List.replicate m x0) (by simp) (by simp) h63 fun zz => ?_).trans (Buf.cut (Nat.zero_le _)))⟩
  refine ⟨by simp, fun i x hx => ?_⟩
  have hi := (List.getElem?_eq_some_iff.1 hx).1
  simp at hi
  have hxx : x = x0 := by simp [hi] at hx; exact hx.symm
  subst hxx
  have : ((List.replicate (m * T.sz) z0).drop (i * T.sz)).take T.sz = List.replicate T.sz z0 := by
    rw [List.drop_replicate, List.take_replicate, ← Nat.sub_mul]
    congr 1
    have : 1 * T.sz ≤ (m - i) * T.sz := Nat.mul_le_mul_right _ (by omega)
    omega
  rw [this]; exact hrep zz
theorem V.cap {T' E0 : TypeId} {xs : Array Operand} {x : Operand} (ho : o.op = .call ⟨.builtin .cap, xs, #[T']⟩) (hxs : xs = #[x]) (hT : P.underlying T' = some (.slice E0)) (hx : ev al x = some (.slice a m c)) : OpV P n κ al L o (vI c) := V.of_run fun a' w he => by
  subst hxs
  simp [execOp, ho, resolve, invoke, builtin, Builtin.cap_, he.ev hx, run_underlying hT, goInt]
/-- A literal of bytes, converted to its own type: the row gets the mark behind its last cell. -/
theorem E.convLit {T' e b m' c' : Nat} {x : Operand} {s : List UInt8} (ho : o.op = .convert T' T' x) (hT : P.underlying T' = some (.slice e)) (hu : P.underlying e = some (.int .u8)) (hx : ev al x = some (.slice (some ⟨b, 0, none⟩) m' c')) (hp : Pick (Blk b e (s.map v8)) L L1) (hm : s.length = m') (hc : m' = c') (h63 : m' ≤ 1000000000) :
    OpE P n κ al L o fun v M => v = .slice (some ⟨b, 0, none⟩) m' c' ∧ M = Buf R8 e (some ⟨b, 0, none⟩) m' m' s :: L1 := OpE.of_run fun a' w he hs => by
  subst hc; subst hm
  have hb := hs.blk hp
  have hsh : w.shape? b = some (e, s.length) := by
    unfold World.shape?; rw [hb]; simp
  have hfr : (w.freeze ⟨b, s.length, none⟩ 1).heap[b]? = some (.cells (s.map v8).toArray e (s.length, s.length + 1)) := by
    unfold World.freeze
    rw [if_neg (by decide)]
    simp [Array.getElem?_modify, hb]
  have hk : ∀ k, k ≠ b → (w.freeze ⟨b, s.length, none⟩ 1).heap[k]? = w.heap[k]? := fun k hk => by
    unfold World.freeze
    rw [if_neg (by decide)]
    simp only [Array.getElem?_modify]
    rw [if_neg (by simpa using fun e => hk e.symm)]
  have hsys : Sys w (w.freeze ⟨b, s.length, none⟩ 1) := by
    unfold World.freeze
    rw [if_neg (by decide)]
    exact ⟨rfl, rfl, rfl⟩
  have hs2 := hs.change (b := b) (A' := BlkF b e (s.map v8) (s.length, s.length + 1)) (o := .cells (s.map v8).toArray e (0, 0)) (o' := .cells (s.map v8).toArray e (s.length, s.length + 1)) hp (fun _ _ hA => ⟨hA, fun _ hb' _ => hb'⟩) hsys hfr hk
  refine ⟨_, _, _, .inl ?_, ⟨rfl, rfl⟩, hs2.ent ((Ent.frame _ (?_ : Ent L1 (ro (fun z => R8.rows z (s.map v8) s) :: L1))).trans ?_)⟩
  · simp [execOp, ho, convert, he.ev hx, run_underlying hT, run_underlying hu, markStringish, hsh]
  · exact fun z h H => Holds.add_ro (rows_sc.2 ⟨rfl, fun _ _ => trivial⟩) H
  · have h1 := Buf.close (T := R8) (b := b) (e := e) (L := L1) (m := s.length) (c := s.length) (l := s) (cs := s.map v8) (rest := []) (fz := (s.length, s.length + 1)) rfl (Nat.le_refl _) (by omega) (fun i hi => by simp at hi ⊢; omega) (by simp [show R8.sz = 1 from rfl])
    rwa [List.append_nil] at h1
end
end Go.Wk

namespace Go.Wk
section
variable {P : Program} {n : Nat} {κ : World} {al : List (Nat × Value)} {L L1 : List Assn} {o : Oper} {v : Value} {α : Type} {T : Rep α} {a : Option Addr} {m c e : Nat} {l : List α}

theorem V.openEx {ι : Type} {A : ι → List Assn} (hp : Pick (Ex A) L L1) (h : ∀ i, OpV P n κ al (A i ++ L1) o v) : OpV P n κ al L o v := fun a w he hs => by
  obtain ⟨i, hi⟩ := (hs.ent hp).openEx
  exact h i a w he hi

section
variable {sz : Nat} {g : α → List Value} {ok : α → Prop} {hl0 : ∀ x, ok x → (g x).length = sz} {h10 : ∀ x, ∀ u ∈ g x, u.oneCell' = true}
theorem V.fieldBuf {s f off j : Nat} {x : Operand} (ho : o.op = .fieldAddr s x f) (hx : ev al x = some (eptr a (j * T.sz))) (hf : FieldOff P s f off) (hp : Pick (Buf T e a m c l) L L1) (hj : j < l.length) : OpV P n κ al L o (eptr a (j * T.sz + off)) := fun a' w he hs => by
  have h1 := hs.buf hp
  have h2 := hs.bufN hp
  cases a with
  | none => have := h2 rfl; omega
  | some ad =>
    obtain ⟨fs, fd, ti, e1, e2, e3, e4, rfl⟩ := hf
    have hx' := he.ev hx
    simp only [eptr, Option.map_some] at hx'
    have hadd : (ad.add (j * T.sz)).add fd.offset = ad.add (j * T.sz + fd.offset) := by
      obtain ⟨_, _, _, _, _, h4⟩ : ∃ z h1 h2 : Frag, True ∧ True ∧ ((some ad = none ∧ m = 0 ∧ c = 0) ∨ ∃ (b : Nat) (pre : List Value), some ad = some ⟨b, pre.length, none⟩) := by
        obtain ⟨_, z, x, _, _, _, d⟩ := hs
        obtain ⟨h1', h2', _, _, _, _, _, hA, _⟩ := hp z x d
        exact ⟨z, h1', h2', trivial, trivial, hA.2.2.2.imp id fun ⟨b, pre, _, _, _, e, _⟩ => ⟨b, pre, e⟩⟩
      rcases h4 with ⟨h, _⟩ | ⟨b, pre, h⟩
      · cases h
      · cases h
        rw [addr_add, addr_add, addr_add, Nat.add_assoc]
    simp [execOp, ho, hx', Instr.fieldAt, run_underlying e1, e2, Instr.sureAddr, fieldPlace, run_sizeOf_info e3, e4, hadd, eptr]
theorem V.loadBufDtF {T' j f : Nat} {y : α} {x : Operand} {u : Value} (ho : o.op = .load T' x) (hT : One P T') (hx : ev al x = some (eptr a (j * (Rep.dt sz g ok hl0 h10).sz + f))) (hp : Pick (Buf (Rep.dt sz g ok hl0 h10) e a m c l) L L1) (hy : l[j]? = some y) (hu : (g y)[f]? = some u) : OpV P n κ al L o u := fun a' w he hs => by
  have hj : j < l.length := (List.getElem?_eq_some_iff.1 hy).1
  have hs2 := hs.ent hp
  obtain ⟨g1, g2, g3⟩ := hs2.buf Pick.here
  rcases hs2.open_buf with ⟨_, h4, _⟩ | ⟨b, pre, cs, rest, fz, rfl, hfz, hl, hcs, hsF⟩
  · omega
  · obtain ⟨z, hz, hrows⟩ := hsF.get_ro (R := fun z => (Rep.dt sz g ok hl0 h10).rows z cs l) (.tail _ (.head _))
    have hrep := hrows.2 j y hy
    have hus' : (cs.drop (j * sz)).take sz = g y := hrep.1
    have hb := hsF.blkF
    rw [← hus', List.getElem?_take] at hu
    split at hu
    · rw [List.getElem?_drop] at hu
      have hlt := (List.getElem?_eq_some_iff.1 hu).1
      have hcell : w.cell? ⟨b, pre.length + (j * sz + f), none⟩ = some u := by
        simp only [World.cell?, hb]
        simp [List.getElem?_append_right, List.getElem?_append_left hlt, hu]
      have hx' := he.ev hx
      simp [eptr, addr_add, Rep.dt] at hx'
      simp [execOp, ho, hx', Instr.loadAt, Instr.sureAddr, loadVar, hT.agg w, hcell]
    · cases hu
end

/-- A call by a function value. -/
theorem E.callV {f : FuncId} {xs : Array Operand} {ts : Array TypeId} {vs : List Value} {K : Post} {x : Operand} (ho : o.op = .call ⟨.value x, xs, ts⟩) (hfx : ev al x = some (.func (.func f) #[] #[])) (hf : IsGo P f) (hx : evs al xs.toList = some vs) (hc : Ctr P f vs.toArray κ L K) : OpE P n κ al L o K := fun a w he hs => by
  have hm : xs.map a.eval = vs.toArray := by
    rw [← he.evs hx]; apply Array.ext'; simp
  have hr : (execOp a.eval o).run P w = .ok (.enter f vs.toArray) w := by
    simp [execOp, ho, resolve, he.ev hfx, Deferred.ofValue, invoke, hm, run_callFunc hf]
  unfold Oper.wp
  rw [hr]
  refine Calls.mono (hc w hs) ?_
  rintro e w' ⟨v, rfl, hK⟩
  exact ⟨v, rfl, hK⟩
/-- An element of an array value. -/
theorem V.indexA {T' E0 len j : Nat} {kk : IntKind} {i : Int} {x y : Operand} {cs : List Value} {u : Value} (ho : o.op = .index T' x y) (hT : ArrTy P T' len E0 1) (hE : One P E0) (hl : cs.length = len) (hx : ev al x = some (.agg cs.toArray)) (hy : ev al y = some (.int kk i)) (hj : i = (j : Int)) (hu : cs[j]? = some u) :
    OpV P n κ al L o u := V.of_run fun a' w he => by
  subst hj
  obtain ⟨ti, h1, h2, h3⟩ := hT
  have hjl : j < len := by rw [← hl]; exact (List.getElem?_eq_some_iff.1 hu).1
  have hg := hE.agg w
  have hx' := he.ev hx
  have hpt : (part E0 cs.toArray j).run P w = .ok u w := by
    unfold part
    simp [hg, hu]
  simp [execOp, ho, hx', he.ev hy, Instr.index, asIntOf, run_underlying h1, hjl, run_sizeOf_info h2, h3, hpt]

theorem Ent.ro_and {R R' : Frag → Prop} : Ent (ro (fun z => R z ∧ R' z) :: L) (ro R :: ro R' :: L) := fun z h H => by
  obtain ⟨h1, h2, z1, a, b, c, d, ⟨e, e'⟩, f⟩ := H
  exact ⟨Frag.emp, h, z1, a, Frag.emp_disj _, Frag.emp_le _, Frag.le.refl _, e, Frag.emp, h, z1, a, Frag.emp_disj _, Frag.emp_le _, Frag.le.refl _, e', Holds.mono (Frag.le.refl _) d f⟩
/-- Two facts out of one. -/
theorem SG.roEx3 {f : FuncId} {K : Post} {k : List Item} {ι : Type} {R0 : Frag → Prop} {p : ι → Prop} {R R' R'' : ι → Frag → Prop} (hp : Pick (ro R0) L L1) (hR : ∀ z, R0 z → ∃ i, p i ∧ (R i z ∧ R' i z ∧ R'' i z)) (h : ∀ i, p i → SG P f n κ K k al (ro (R i) :: ro (R' i) :: ro (R'' i) :: L1)) : SG P f n κ K k al L :=
  SG.roEx hp hR fun i hi => SG.ent (Ent.ro_and.trans (Ent.frame _ Ent.ro_and)) (h i hi)
theorem RL.roEx3 {f : FuncId} {K : Post} {k : List Item} {ops : Array Oper} {rest : List Oper} {ι : Type} {R0 : Frag → Prop} {p : ι → Prop} {R R' R'' : ι → Frag → Prop} (hp : Pick (ro R0) L L1) (hR : ∀ z, R0 z → ∃ i, p i ∧ (R i z ∧ R' i z ∧ R'' i z)) (h : ∀ i, p i → RL P f n κ K k ops rest al (ro (R i) :: ro (R' i) :: ro (R'' i) :: L1)) : RL P f n κ K k ops rest al L :=
  RL.roEx hp hR fun i hi => RL.ent (Ent.ro_and.trans (Ent.frame _ Ent.ro_and)) (h i hi)
theorem RH.roEx3 {f : FuncId} {K : Post} {k : List Item} {ops : Array Oper} {L0 : List Assn} {x fuel : Nat} {listed : Array Bool} {ι : Type} {R0 : Frag → Prop} {p : ι → Prop} {R R' R'' : ι → Frag → Prop} (hp : Pick (ro R0) L L1) (hR : ∀ z, R0 z → ∃ i, p i ∧ (R i z ∧ R' i z ∧ R'' i z)) (h : ∀ i, p i → RH P f n κ K k ops L0 x fuel listed al (ro (R i) :: ro (R' i) :: ro (R'' i) :: L1)) : RH P f n κ K k ops L0 x fuel listed al L :=
  RH.roEx hp hR fun i hi => RH.ent (Ent.ro_and.trans (Ent.frame _ Ent.ro_and)) (h i hi)
end
end Go.Wk

namespace Go.Wk
section
variable {P : Program} {n : Nat} {κ : World} {al : List (Nat × Value)} {L L1 : List Assn} {o : Oper} {α : Type} {T : Rep α} {e : TypeId}
/-- A value, as an effect (it may be read of what the region itself has made). -/
theorem E.val {u : Value} (h : OpV P n κ al L o u) : OpE P n κ al L o (fun v M => v = u ∧ M = L) := OpE.of_val h ⟨rfl, rfl⟩
section
variable {f : FuncId} {K : Post} {k : List Item} {ops : Array Oper} {rest : List Oper} {ι : Type} {R0 : Frag → Prop} {p : ι → Prop} {R R' : ι → Frag → Prop}
theorem SG.roEx2 (hp : Pick (ro R0) L L1) (hR : ∀ z, R0 z → ∃ i, p i ∧ (R i z ∧ R' i z)) (h : ∀ i, p i → SG P f n κ K k al (ro (R i) :: ro (R' i) :: L1)) : SG P f n κ K k al L :=
  SG.roEx hp hR fun i hi => SG.ent Ent.ro_and (h i hi)
theorem RL.roEx2 (hp : Pick (ro R0) L L1) (hR : ∀ z, R0 z → ∃ i, p i ∧ (R i z ∧ R' i z)) (h : ∀ i, p i → RL P f n κ K k ops rest al (ro (R i) :: ro (R' i) :: L1)) : RL P f n κ K k ops rest al L :=
  RL.roEx hp hR fun i hi => RL.ent Ent.ro_and (h i hi)
theorem RH.roEx2 {L0 : List Assn} {x fuel : Nat} {listed : Array Bool} (hp : Pick (ro R0) L L1) (hR : ∀ z, R0 z → ∃ i, p i ∧ (R i z ∧ R' i z)) (h : ∀ i, p i → RH P f n κ K k ops L0 x fuel listed al (ro (R i) :: ro (R' i) :: L1)) : RH P f n κ K k ops L0 x fuel listed al L :=
  RH.roEx hp hR fun i hi => RH.ent Ent.ro_and (h i hi)
end
end
end Go.Wk

namespace Go.Wk
open Go.WideShapes

section
variable {P : Program} {H : Type} {enc : TypeId × Value → H} {W : World}

theorem slice_reach {ts : List TypeId} {ds : List (DataW H)} (h : (DataW.weightsEach P ts ds).all (· ≤ reachBytes) = true) {j : Nat} {t e : TypeId} {d : DataW H} {ps : List MemPlace} {a : Option Addr} {m c : Nat}
    (ht : ts[j]? = some t) (hd : ds[j]? = some d) (hu : P.underlying t = some (.slice e)) (hT : DataW.Trod enc P W 0 (fun _ => true) true t (.slice a m c) d ps) : m * P.bytesOf e ≤ reachBytes := by
  obtain ⟨n, hn⟩ := hT
  rcases DataW.trod_slice hu hn with ⟨h1, _⟩ | ⟨a', len, cap, elems, rest, n', _, h1, h2, _, _, _, h3, _⟩
  · have : m = 0 := by
      have h1' : [Value.slice a m c] = [.slice none 0 0] := h1
      simp only [List.cons.injEq, Value.slice.injEq, and_true] at h1'
      exact h1'.2.1
    subst this; omega
  · have hm : m = len := by
      have h1' : [Value.slice a m c] = [.slice (some a') len cap] := h1
      simp only [List.cons.injEq, Value.slice.injEq, and_true] at h1'
      exact h1'.2.1
    have h2' : d = .slice (elems.map (·.1)) (rest.map (·.1)) := (Prod.mk.inj h2).1
    have := sized_slice h ht (by rw [hd, h2']) hu
    rw [List.length_map, h3, ← hm] at this
    exact Nat.le_trans (Nat.mul_le_mul_right _ (Nat.le_add_right _ _)) this

theorem opens_sum {α : Type} {T : Rep α} {sz : α → Nat} {bk : DataW H → Nat} {t e : TypeId} (ht : P.underlying t = some (.slice e)) (hsz : P.cellsOf e = T.sz) (h0 : 0 < T.sz) (hb : ∀ E R : List (DataW H), (E.map bk).sum ≤ bk (.slice E R))
    (O : ∀ {n : Nat} {cs : List Value} {x : DataW H × List MemPlace}, DataW.trod enc P W 0 (fun _ => true) true n e cs = some x → ∃ y, T.rep (Frag.of W) cs y ∧ sz y ≤ bk x.1)
    {n : Nat} {cs : List Value} {x : DataW H × List MemPlace} (h : DataW.trod enc P W 0 (fun _ => true) true n t cs = some x) : ∃ y, (Rep.slice T).rep (Frag.of W) cs y ∧ (y.map sz).sum ≤ bk x.1 := by
  rcases DataW.trod_slice ht h with ⟨rfl, rfl⟩ | ⟨a, len, cap, elems, rest, n', _, rfl, rfl, _, hlc, hcm, hel, hget, _, _⟩
  · exact ⟨[], ⟨none, 0, 0, rfl, rfl, Nat.le_refl _, by omega, .inl rfl⟩, Nat.zero_le _⟩
  · rw [hsz] at hget
    have key : ∀ k, k ≤ len → ∃ (cs : List Value) (l : List α), l.length = k ∧ T.rows (Frag.of W) cs l ∧ (0 < k → a.spot = none) ∧ Row (Frag.of W) a.block a.off cs ∧ (l.map sz).sum ≤ (((elems.map (·.1)).take k).map bk).sum := by
      intro k
      induction k with
      | zero => exact fun _ => ⟨[], [], rfl, Rep.rows.nil T _, fun h => absurd h (by omega), fun i u hu => by simp at hu, Nat.zero_le _⟩
      | succ k ih =>
        intro hk
        obtain ⟨cs, l, e1, e2, e3, e4, e5⟩ := ih (by omega)
        have hy := hget k (by omega)
        have hke : k < elems.length := by omega
        rw [List.getElem?_eq_getElem hke] at hy
        cases hcs : W.cells? 0 (a.add (k * T.sz)) T.sz with
        | none => rw [hcs] at hy; cases hy
        | some us =>
          rw [hcs] at hy
          obtain ⟨d, hd, hd2⟩ := O hy
          obtain ⟨f1, f2⟩ := cells_row hcs h0
          have hcl : cs.length = k * T.sz := by rw [e2.1, e1]
          rw [add_block, add_off] at f2
          have f3 : a.spot = none := by
            by_cases hk0 : k = 0
            · subst hk0
              rw [Nat.zero_mul] at f1
              exact f1
            · exact e3 (by omega)
          refine ⟨cs ++ us, l ++ [d], by simp [e1], Rep.rows.append e2 (Rep.rows.single hd), fun _ => f3, e4.join ?_, ?_⟩
          · rw [hcl]; exact f2
          · rw [List.take_add_one, List.getElem?_map, List.getElem?_eq_getElem hke]
            simp only [Option.map_some, Option.toList_some, List.map_append, List.map_cons, List.map_nil, List.sum_append, List.sum_cons, List.sum_nil]
            omega
    obtain ⟨cs, l, e1, e2, e3, e4, e5⟩ := key len (Nat.le_refl _)
    refine ⟨l, ⟨some a, len, cap, rfl, e1, hlc, by have hm : maxLen = 9223372036854775807 := rfl; omega, ?_⟩, ?_⟩
    · by_cases hl : len = 0
      · exact .inl hl
      · refine .inr ⟨a.block, a.off, cs, ?_, e4, e2⟩
        have := e3 (by omega)
        cases a; simp at this; subst this; rfl
    · refine Nat.le_trans e5 ?_
      rw [List.take_of_length_le (by rw [List.length_map]; omega)]
      exact hb _ _
end
end Go.Wk
namespace Go.Wk
section
variable {P : Program} {t e : TypeId}
/-- An array of bytes. -/
theorem Opens.arr8 {n : Nat} (ht : P.underlying t = some (.array n e)) (hc : P.cellsOf t = n) (O : Opens P e R8) : Opens P t (RArr8 n) := ⟨hc, fun {H enc W k cs x} h => by
  obtain ⟨xs, m, _, _, hl, hn, hg⟩ := DataW.trod_array ht h
  rw [hc] at hl
  rw [O.sz] at hg
  have key : ∀ j, j ≤ n → ∃ l : List UInt8, l.length = j ∧ cs.take j = l.map v8 := by
    intro j
    induction j with
    | zero => exact fun _ => ⟨[], rfl, rfl⟩
    | succ j ih =>
      intro hj
      obtain ⟨l, h1, h2⟩ := ih (by omega)
      have hy := hg j (by omega)
      rw [List.getElem?_eq_getElem (by omega)] at hy
      obtain ⟨y, h3, _⟩ := O.op hy
      have h4 : (cs.drop (j * 1)).take 1 = [v8 y] := h3
      rw [Nat.mul_one] at h4
      refine ⟨l ++ [y], by simp [h1], ?_⟩
      rw [List.take_add, h2, h4]; simp
  obtain ⟨l, h1, h2⟩ := key n (Nat.le_refl _)
  refine ⟨l, ?_, h1⟩
  show cs = l.map v8
  rw [← h2, List.take_of_length_le (by omega)]⟩
theorem Opens.argA {α : Type} {T : Rep α} {r : Reach} {base : Nat} {H : Type} {enc : TypeId × Value → H} {W : World} {v : Value} {d : DataW H} {ps : List MemPlace} {m : Nat} (O : Opens P t T) (hs : P.underlying t = some (.array m e))
    (hval : Value.okWide P W r base t v) (h : DataW.Trod enc P W 0 (fun _ => true) true t v d ps) : ∃ us y, v = .agg us.toArray ∧ T.rep (Frag.of W) us y := by
  obtain ⟨n, hn⟩ := h
  obtain ⟨y, hy⟩ := O.op hn
  unfold Value.okWide at hval
  rw [hs] at hval
  obtain ⟨cs, rfl, _⟩ := hval
  exact ⟨cs.toList, y, rfl, hy⟩
end
end Go.Wk

namespace Go.Wk
open Go.MapKept
section
variable {P : Program} {n : Nat} {κ : World} {al : List (Nat × Value)} {L L1 : List Assn} {o : Oper}

theorem B.lssS {x y : List UInt8} : BinRun P .lss (vS x) (vS y) (.bool (Op.bytesLess x y)) := fun T w =>
  ⟨by simp [binOp, Op.stringOp, ByteArray.toList_eq], fun a b => eqGuard_string _ _ _ _ _ _ _⟩

theorem decode_beyond {s : List UInt8} {k : Nat} (hk : k < s.length) (ha : 128 ≤ (s[k]).toNat) : 128 ≤ (Utf8.decode ⟨⟨s⟩⟩ k).1 := by
  have h : k < (⟨⟨s⟩⟩ : ByteArray).size := hk
  have e : (⟨⟨s⟩⟩ : ByteArray).get! (k + 0) = s[k] := by
    show (⟨⟨s⟩⟩ : ByteArray).get! k = _
    simp [ByteArray.get!, hk]
  have hn : ¬ ((⟨⟨s⟩⟩ : ByteArray).get! (k + 0)).toNat < 128 := by rw [e]; omega
  have he : 128 ≤ Utf8.runeError := by decide
  simp only [Utf8.decode]
  rw [if_neg hn]
  split
  · split
    · assumption
    · exact he
  · split
    · split
      · rename_i h1
        simp only [ge_iff_le, Bool.and_eq_true, decide_eq_true_eq] at h1
        show 128 ≤ _
        omega
      · exact he
    · split
      · split
        · rename_i h1
          simp only [ge_iff_le, Bool.and_eq_true, decide_eq_true_eq] at h1
          show 128 ≤ _
          omega
        · exact he
      · exact he
theorem encode_ascii {i : Int} (h0 : 0 ≤ i) (h1 : i < 128) : Utf8.encode i = ⟨⟨[UInt8.ofNat i.toNat]⟩⟩ := by
  have hv : Utf8.valid i = true := by
    simp [Utf8.valid]; omega
  unfold Utf8.encode
  rw [hv]
  simp only [if_true]
  rw [if_pos (by omega)]
theorem V.runeS {S D : TypeId} {x : Operand} {k : IntKind} {i : Int} (ho : o.op = .convert S D x) (hS : ∃ d, P.underlying S = some d) (hD : P.underlying D = some .string) (hx : ev al x = some (.int k i)) (h0 : 0 ≤ i) (h1 : i < 128) : OpV P n κ al L o (vS [UInt8.ofNat i.toNat]) := V.of_run fun a w he => by
  obtain ⟨d, hd⟩ := hS
  have h2 := run_convert_int_string (P := P) w S D k i (by rw [hd]; rfl) hD
  rw [encode_ascii h0 h1] at h2
  simp [execOp, ho, he.ev hx, h2]
theorem wrapR {i : Int} (h0 : -2147483648 ≤ i) (h1 : i < 2147483648) : IntKind.i32.wrap i = i := by
  simp [IntKind.wrap, IntKind.signed, IntKind.bits]; omega
theorem V.toR {S D : TypeId} {x : Operand} {k : IntKind} {i : Int} (ho : o.op = .convert S D x) (hS : ∃ d, P.underlying S = some d) (hD : P.underlying D = some (.int .i32)) (hx : ev al x = some (.int k i)) (h0 : -2147483648 ≤ i) (h1 : i < 2147483648) : OpV P n κ al L o (.int .i32 i) := by
  have h := V.toInt (n := n) (κ := κ) (L := L) ho hS hD hx
  rwa [wrapR h0 h1] at h
theorem B.subR {x y : Int} (h0 : -2147483648 ≤ x - y) (h1 : x - y < 2147483648) : BinRun P .sub (.int .i32 x) (.int .i32 y) (.int .i32 (x - y)) := by
  have h := B.sub (P := P) (k := .i32) (x := x) (y := y)
  rwa [wrapR h0 h1] at h
/-- Block g holds just these cells, throughout. -/
def Glob (g : Nat) (cs : List Value) : Assn := ro fun z => ∃ T fr, z g = some (.cells cs.toArray T fr)
theorem Sep.glob {w : World} {g : Nat} {cs : List Value} (hs : Sep κ w L) (hm : Glob g cs ∈ L) : ∃ T fr, w.heap[g]? = some (.cells cs.toArray T fr) := by
  obtain ⟨z, hz, T, fr, h⟩ := hs.get_ro hm
  exact ⟨T, fr, hz g _ h⟩
theorem Sep.grow {w : World} (hs : Sep κ w L) (k : Nat) (os : Array Obj) : Sep κ (Sort.grow (w.drewN k) os) L := by
  obtain ⟨s, z, x, a, b, c, d⟩ := hs
  have hup : ∀ {f : Frag}, f.le (Frag.of w) → f.le (Frag.of (Sort.grow (w.drewN k) os)) := fun {f} hf j o' e => by
    have hj := hf j o' e
    simp only [Frag.of] at hj ⊢
    have hlt : j < w.heap.size := (Array.getElem?_eq_some_iff.1 hj).1
    rw [Sort.heap_grow_old (w.drewN k) os (show j < (w.drewN k).heap.size from hlt)]; exact hj
  exact ⟨⟨s.os, s.tape, s.output⟩, z, x, a, hup b, hup c, d⟩

/-- An iterator over a string, at a place. -/
def SIt (it : Nat) (s : List UInt8) (k : Nat) : Assn := fun _ h => h it = some (.stringIter ⟨⟨s⟩⟩ k)
theorem E.rangeStr {T : TypeId} {x : Operand} {s : List UInt8} (ho : o.op = .range T x) (hT : P.underlying T = some .string) (hx : ev al x = some (vS s)) :
    OpE P n κ al L o fun v M => ∃ it, v = ptr it 0 ∧ M = SIt it s 0 :: L := OpE.of_run fun a w he hs => by
  have hr := run_range_string (P := P) w T ⟨⟨s⟩⟩ hT
  refine ⟨ptr w.heap.size 0, w.alloc (.stringIter ⟨⟨s⟩⟩ 0), _, .inl ?_, ⟨w.heap.size, rfl, rfl⟩, hs.new (A := SIt w.heap.size s 0) (fun _ => by simp [SIt, Frag.one])⟩
  simp [execOp, ho, he.ev hx, hr, World.iter]
theorem Sep.sIt {w : World} {it : Nat} {s : List UInt8} {k : Nat} (hs : Sep κ w L) (hp : Pick (SIt it s k) L L1) : w.heap[it]? = some (.stringIter ⟨⟨s⟩⟩ k) := by
  obtain ⟨_, z, x, a, bb, c, d⟩ := hs
  obtain ⟨h1, _, _, _, _, g, _, i, _⟩ := hp z x d
  exact c it _ (g it _ i)
/-- The next rune: at the end; a byte of its own; or something beyond. -/
theorem E.nextStr {it : Nat} {s : List UInt8} {k : Nat} {x : Operand} (ho : o.op = .next x true) (hx : ev al x = some (ptr it 0)) (hp : Pick (SIt it s k) L L1) :
    OpE P n κ al L o fun v M => (s.length ≤ k ∧ v = .tuple #[.bool false] ∧ M = SIt it s k :: L1) ∨
      ∃ u : UInt8, ∃ c : Nat, ∃ k' : Nat, s[k]? = some u ∧ v = .tuple #[.bool true, vI k, .int .i32 c] ∧ M = SIt it s k' :: L1 ∧ ((c = u.toNat ∧ k' = k + 1) ∨ (128 ≤ c ∧ 128 ≤ u.toNat)) := OpE.of_run fun a w he hs => by
  have hit := hs.sIt hp
  have hx' := he.ev hx
  have hget : (getObj it).run P w = .ok (.stringIter ⟨⟨s⟩⟩ k) w := by simp [getObj, Sem.run, hit]
  have hset : ∀ o', (setObj it o').run P w = .ok () { w with heap := w.heap.setIfInBounds it o' } := fun o' => by simp [setObj, Sem.run, hit]
  by_cases hk : k < s.length
  · have hsz : k < (⟨⟨s⟩⟩ : ByteArray).size := hk
    have hsk : s[k]? = some s[k] := List.getElem?_eq_getElem hk
    refine ⟨_, { w with heap := w.heap.setIfInBounds it (.stringIter ⟨⟨s⟩⟩ (k + (Utf8.decode ⟨⟨s⟩⟩ k).2)) }, _, .inl ?_, .inr ⟨s[k], (Utf8.decode ⟨⟨s⟩⟩ k).1, k + (Utf8.decode ⟨⟨s⟩⟩ k).2, hsk, rfl, rfl, ?_⟩, ?_⟩
    · simp only [execOp, ho, hx', Instr.next, Sem.run_bind, hget, Result.andThen, hsz, if_true, hset]
      simp [goInt]
    · by_cases ha : (s[k]).toNat < 128
      · left
        have hd := decode_ascii ⟨⟨s⟩⟩ k hsz ha
        rw [hd]
        exact ⟨rfl, rfl⟩
      · right
        exact ⟨decode_beyond hk (by omega), by omega⟩
    · exact hs.change (b := it) (o := .stringIter ⟨⟨s⟩⟩ k) (o' := .stringIter ⟨⟨s⟩⟩ (k + (Utf8.decode ⟨⟨s⟩⟩ k).2)) hp (fun _ h1 hA => ⟨hA, fun h2 hb' _ => hb'⟩) ⟨rfl, rfl, rfl⟩ (heap_set hit).1 (heap_set hit).2
  · have hsz : ¬ k < (⟨⟨s⟩⟩ : ByteArray).size := hk
    refine ⟨_, w, _, .inl ?_, .inl ⟨by omega, rfl, rfl⟩, hs.ent hp⟩
    simp only [execOp, ho, hx', Instr.next, Sem.run_bind, hget, Result.andThen, hsz, if_false]
    simp
end
end Go.Wk

namespace Go.Wk
theorem memX {α : Type _} {a : α} {l : List α} (h : a ∈ l := by repeat (first | exact List.Mem.head _ | assumption | apply List.Mem.tail)) : a ∈ l := h
theorem pickX {A : Assn} {L L1 : List Assn} (h : Pick A L L1 := by repeat (first | exact Go.Wk.Pick.here | assumption | apply Go.Wk.Pick.there)) : Pick A L L1 := h
theorem entX {L L' : List Assn} (h : Ent L L' := by repeat (first | exact Go.Wk.Ent.refl _ | (apply Go.Wk.Ent.cons; (· repeat (first | exact Go.Wk.Pick.here | (refine Go.Wk.Pick.sl ?_; (· repeat (first | exact List.Mem.head _ | assumption | apply List.Mem.tail))) | apply Go.Wk.Pick.there))) | (refine Go.Wk.Ent.trans (Go.Wk.Ent.drop _ _) ?_))) : Ent L L' := h
theorem krX {p : Prop} (h : p := by kernel_rfl) : p := h
end Go.Wk
