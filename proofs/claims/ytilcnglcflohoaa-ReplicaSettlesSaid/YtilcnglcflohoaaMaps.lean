/- One assertion an element of a list; maps of our own, keyed by ints; loops over them. -/
import Derived.Test.YtilcnglcflohoaaMore3
import Derived.MapKept
import Derived.Laws.IdiomRangeMap
namespace Go.Wk
open Go.MapKept

/- 1. FAMILIES -/
theorem Ent.perm {L L' : List Assn} (h : L.Perm L') : Ent L L' := by
  induction h with
  | nil => exact Ent.refl _
  | cons x _ ih => exact Ent.frame x ih
  | swap x y l => exact Ent.swap y x l
  | trans _ _ h1 h2 => exact h1.trans h2
theorem perm_eraseIdx {α : Type} : ∀ {l : List α} {i : Nat} (h : i < l.length), (l[i] :: l.eraseIdx i).Perm l
  | _ :: _, 0, _ => List.Perm.refl _
  | x :: l, i + 1, h => (List.Perm.swap _ _ _).trans ((perm_eraseIdx (l := l) (i := i) (by simpa using h)).cons x)
theorem nodup_of_map {α β : Type} (f : α → β) : ∀ {l : List α}, (l.map f).Nodup → l.Nodup
  | [], _ => List.nodup_nil
  | x :: l, h => by
    rw [List.map_cons, List.nodup_cons] at h
    exact List.nodup_cons.2 ⟨fun hx => h.1 (List.mem_map_of_mem hx), nodup_of_map f h.2⟩
/-- f holds of each element, over memory of its own. -/
def Each {ι : Type} (f : ι → Assn) (l : List ι) : Assn := fun z h => Holds z (l.map f) h
section
variable {ι : Type} {f : ι → Assn} {l l' : List ι} {L L1 L' : List Assn} {x y : ι} {k : Nat}
theorem Each.open : Ent (Each f l :: L) (l.map f ++ L) := fun _ _ ⟨_, _, _, a, b, c, d, e, H⟩ => Holds.app b c d (Holds.mono a (Frag.le.refl _) e) H
theorem Each.close : Ent (l.map f ++ L) (Each f l :: L) := fun z _ H => by
  obtain ⟨ha, hb, g1, g2, g3, g4, g5⟩ := Holds.split H
  exact ⟨ha, hb, z, Frag.le.refl _, g1, g2, g3, g4, g5⟩
theorem Each.perm (h : l.Perm l') : Ent (Each f l :: L) (Each f l' :: L) := Each.open.trans (Ent.trans (Ent.perm ((h.map f).append_right L)) Each.close)
theorem Each.nil : Ent L (Each f [] :: L) := Each.close (l := [])
theorem Each.cons : Ent (f x :: Each f l :: L) (Each f (x :: l) :: L) := Ent.trans (Ent.frame _ Each.open) (Each.close (l := x :: l))
theorem Each.uncons : Ent (Each f (x :: l) :: L) (f x :: Each f l :: L) := Ent.trans (Each.open (l := x :: l)) (Ent.frame _ Each.close)
theorem Each.snoc : Ent (f x :: Each f l :: L) (Each f (l ++ [x]) :: L) := Each.cons.trans (Each.perm (List.perm_append_singleton x l).symm)
theorem Each.take (h : l[k]? = some x) : Ent (Each f l :: L) (f x :: Each f (l.eraseIdx k) :: L) := by
  obtain ⟨hk, rfl⟩ := List.getElem?_eq_some_iff.1 h
  exact (Each.perm (perm_eraseIdx hk).symm).trans Each.uncons
theorem perm_set (hk : k < l.length) : (y :: l.eraseIdx k).Perm (l.set k y) := by
  have h := perm_eraseIdx (l := l.set k y) (i := k) (by simpa using hk)
  rw [List.getElem_set_self, List.eraseIdx_set_eq] at h
  exact h
theorem Each.back (hk : k < l.length) : Ent (f y :: Each f (l.eraseIdx k) :: L) (Each f (l.set k y) :: L) := Each.cons.trans (Each.perm (perm_set hk))
theorem Each.back' (h : l[k]? = some x) : Ent (f x :: Each f (l.eraseIdx k) :: L) (Each f l :: L) := by
  obtain ⟨hk, rfl⟩ := List.getElem?_eq_some_iff.1 h
  have := Each.back (f := f) (L := L) (y := l[k]) hk
  rwa [List.set_getElem_self] at this
theorem Each.mono {g : ι → Assn} (h : ∀ x ∈ l, ∀ z h, f x z h → g x z h) : Ent (Each f l :: L) (Each g l :: L) := by
  rintro z hh ⟨h1, h2, z1, a, b, c, d, e, H⟩
  refine ⟨h1, h2, z1, a, b, c, d, ?_, H⟩
  clear a b c d H
  induction l generalizing h1 with
  | nil => trivial
  | cons x l ih =>
    obtain ⟨k1, k2, z2, a, b, c, d, e, f⟩ := e
    exact ⟨k1, k2, z2, a, b, c, d, h x (List.mem_cons_self ..) _ _ e, ih (fun y hy => h y (List.mem_cons_of_mem _ hy)) _ f⟩
theorem Pick.frame {A B : Assn} (h : Ent L (A :: L1)) : Pick A (B :: L) (B :: L1) := Pick.there h
end

/- 2. MAPS -/
def kv (x : Int × Value) : Value × Value := (vI x.1, x.2)
def mkv (e : MapEntry) : Value × Value := (e.key, e.val)
/-- A map at block b with these entries, in whatever order. -/
def Mp (b : Nat) (es : List (Int × Value)) : Assn := fun _ h => ∃ ms clock, h b = some (.map ms clock) ∧ Stamped ms clock ∧ (ms.toList.map mkv).Perm (es.map kv)
def mget (es : List (Int × Value)) (k : Int) : Option Value := (es.find? (fun x => x.1 = k)).map (·.2)
def mdel (es : List (Int × Value)) (k : Int) : List (Int × Value) := es.filter (fun x => x.1 ≠ k)
def mput (es : List (Int × Value)) (k : Int) (v : Value) : List (Int × Value) := (k, v) :: mdel es k

theorem kv_inj {x y : Int × Value} (h : kv x = kv y) : x = y := by
  obtain ⟨a, b⟩ := x; obtain ⟨c, d⟩ := y
  simp only [kv, Prod.mk.injEq, Value.int.injEq, true_and] at h
  rw [h.1, h.2]
theorem keys_perm {ms : List MapEntry} {es : List (Int × Value)} (h : (ms.map mkv).Perm (es.map kv)) : (ms.map (·.key)).Perm (es.map (fun x => vI x.1)) := by
  have := h.map Prod.fst
  simpa [List.map_map, Function.comp_def, mkv, kv] using this
theorem Mp.nodup {ms : Array MapEntry} {clock : Nat} {es : List (Int × Value)} (hs : Stamped ms clock) (h : (ms.toList.map mkv).Perm (es.map kv)) : (es.map (·.1)).Nodup := by
  have h1 := (keys_perm h).nodup_iff.1 hs.2.2
  have h2 : es.map (fun x => vI x.1) = (es.map (·.1)).map vI := by simp [List.map_map, Function.comp_def]
  rw [h2] at h1
  exact nodup_of_map _ h1
theorem mem_of_perm {ms : List MapEntry} {es : List (Int × Value)} (h : (ms.map mkv).Perm (es.map kv)) {e : MapEntry} (he : e ∈ ms) : ∃ x ∈ es, mkv e = kv x := by
  have := h.mem_iff.1 (List.mem_map_of_mem (f := mkv) he)
  obtain ⟨x, hx, e2⟩ := List.mem_map.1 this
  exact ⟨x, hx, e2.symm⟩
theorem mget_of_mem {es : List (Int × Value)} (hn : (es.map (·.1)).Nodup) {x : Int × Value} (hx : x ∈ es) : mget es x.1 = some x.2 := by
  induction es with
  | nil => cases hx
  | cons y es ih =>
    rw [List.map_cons, List.nodup_cons] at hn
    rcases List.mem_cons.1 hx with rfl | hx
    · simp [mget]
    · have hne : y.1 ≠ x.1 := fun e => hn.1 (e ▸ List.mem_map_of_mem hx)
      have := ih hn.2 hx
      simpa [mget, hne] using this
theorem mget_none {es : List (Int × Value)} {k : Int} (h : ∀ x ∈ es, x.1 ≠ k) : mget es k = none := by
  simp only [mget, Option.map_eq_none_iff, List.find?_eq_none]
  intro x hx; simpa using h x hx
theorem isKey_i64 {k : Int} : IsKey (.int .i64) (vI k) := rfl

/-- What looking for a key finds. -/
theorem find_mp {P : Program} {w : World} {kt : TypeId} {ms : Array MapEntry} {clock : Nat} {es : List (Int × Value)} (hk : P.underlying kt = some (.int .i64)) (hs : Stamped ms clock) (hp : (ms.toList.map mkv).Perm (es.map kv)) (k : Int) :
    (∀ x ∈ ms.toList, IsKey (.int .i64) x.key) ∧ (((Instr.findKey kt (vI k) ms.toList).run P w = .ok none w ∧ (∀ x ∈ ms.toList, x.key ≠ vI k) ∧ mget es k = none ∧ ∀ x ∈ es, x.1 ≠ k) ∨
      ∃ j e, (Instr.findKey kt (vI k) ms.toList).run P w = .ok (some (j, e.val)) w ∧ ms.toList[j]? = some e ∧ e.key = vI k ∧ mget es k = some e.val) := by
  have hks : ∀ x ∈ ms.toList, IsKey (.int .i64) x.key := fun x hx => by
    obtain ⟨y, _, e⟩ := mem_of_perm hp hx
    have : x.key = vI y.1 := congrArg Prod.fst e
    rw [this]; exact rfl
  refine ⟨hks, ?_⟩
  rcases findNow_spec (d := .int .i64) (k := vI k) rfl ms.toList 0 hks with ⟨h1, h2⟩ | ⟨j, e, h1, h2, h3⟩
  · have h4 : ∀ x ∈ es, x.1 ≠ k := fun x hx he => by
      have := hp.symm.mem_iff.1 (List.mem_map_of_mem (f := kv) hx)
      obtain ⟨m, hm, e⟩ := List.mem_map.1 this
      exact h2 m hm (by have := congrArg Prod.fst e; simpa [mkv, kv, he] using this)
    exact .inl ⟨run_findKey hk h1, h2, mget_none h4, h4⟩
  · refine .inr ⟨j, e, by simpa using run_findKey (w := w) hk h1, h2, h3, ?_⟩
    obtain ⟨x, hx, e2⟩ := mem_of_perm hp (List.mem_of_getElem? h2)
    have e3 : e.key = vI x.1 := congrArg Prod.fst e2
    have e4 : e.val = x.2 := congrArg Prod.snd e2
    rw [h3] at e3
    have : x.1 = k := by simpa using e3.symm
    rw [← this, e4]; exact mget_of_mem (Mp.nodup hs hp) hx

def MapTy (P : Program) (T V : TypeId) (zs : Value) : Prop := ∃ K i, P.underlying T = some (.map K V) ∧ P.underlying K = some (.int .i64) ∧ P.info? V = some i ∧ i.zero = some zs
section
variable {P : Program} {f : FuncId} {n : Nat} {κ : World} {K : Post} {k : List Item} {al : List (Nat × Value)} {L L1 : List Assn} {o : Oper} {T V : TypeId} {zv : Value} {b : Nat} {es : List (Int × Value)} {i : Int}

theorem Sep.mp {w : World} (hs : Sep κ w L) (hp : Pick (Mp b es) L L1) : ∃ ms clock, w.heap[b]? = some (.map ms clock) ∧ Stamped ms clock ∧ (ms.toList.map mkv).Perm (es.map kv) := by
  obtain ⟨_, z, x, a, bb, c, d⟩ := hs
  obtain ⟨h1, _, _, _, _, g, _, ⟨ms, clock, i, j⟩, _⟩ := hp z x d
  exact ⟨ms, clock, c b _ (g b _ i), j⟩
theorem Sep.mpNodup {w : World} (hs : Sep κ w L) (hp : Pick (Mp b es) L L1) : (es.map (·.1)).Nodup := by
  obtain ⟨ms, clock, _, h1, h2⟩ := hs.mp hp
  exact Mp.nodup h1 h2
theorem Sep.mpNew {w w' : World} {ms' : Array MapEntry} {clock' : Nat} {es' : List (Int × Value)} (hs : Sep κ w L) (hp : Pick (Mp b es) L L1) (hw : Sys w w') (hb : w'.heap[b]? = some (.map ms' clock')) (hk : ∀ k, k ≠ b → w'.heap[k]? = w.heap[k]?)
    (h1 : Stamped ms' clock') (h2 : (ms'.toList.map mkv).Perm (es'.map kv)) : Sep κ w' (Mp b es' :: L1) := by
  obtain ⟨ms, clock, h3, h4, h5⟩ := hs.mp hp
  obtain ⟨s, z, x, a, bb, c, d⟩ := hs
  -- name the block's content
  obtain ⟨hh1, hh2, z1, e1, e2, e3, e4, ⟨ms0, cl0, e5, _⟩, e6⟩ := hp z x d
  have hp' : Pick (fun _ h => h b = some (Obj.map ms0 cl0)) [fun z' h' => z' = z1 ∧ (h' b = some (Obj.map ms0 cl0))] [] := fun z h H => by
    obtain ⟨q1, q2, q3, q4, q5, q6, q7, ⟨_, q8⟩, q9⟩ := H
    exact ⟨q1, q2, q3, q4, q5, q6, q7, q8, q9⟩
  have hsep : Sep κ w ((fun _ h => h b = some (Obj.map ms0 cl0)) :: L1) := ⟨s, z, x, a, bb, c, hh1, hh2, z1, e1, e2, e3, e4, e5, e6⟩
  exact hsep.change (b := b) (o := .map ms0 cl0) (o' := .map ms' clock') Pick.here (fun _ _ hA => ⟨hA, fun h2' hb' _ => ⟨ms', clock', hb', h1, h2⟩⟩) hw hb hk

theorem E.makeMap {x : Option Operand} (ho : o.op = .makeMap T x) (hx : x = none) : OpE P n κ al L o fun v M => ∃ b, v = .map (some b) ∧ M = Mp b [] :: L := OpE.of_run fun a w he hs => by
  subst hx
  refine ⟨_, w.alloc (.map #[] 0), _, .inl ?_, ⟨w.heap.size, rfl, rfl⟩, hs.new (o := .map #[] 0) (fun _ => ⟨#[], 0, by simp [Frag.one], stamped_empty 0, by simp⟩)⟩
  simp [execOp, ho, Instr.makeMap]

theorem V.lookup {x y : Operand} (ho : o.op = .lookup T x y false) (hT : MapTy P T V zv) (hx : ev al x = some (.map (some b))) (hy : ev al y = some (vI i)) (hp : Pick (Mp b es) L L1) : OpV P n κ al L o ((mget es i).getD zv) := fun a w he hs => by
  obtain ⟨K, ti, h1, h2, h3, h4⟩ := hT
  obtain ⟨ms, clock, hb, hst, hpm⟩ := hs.mp hp
  obtain ⟨hks, hf⟩ := find_mp (w := w) h2 hst hpm i
  rcases hf with ⟨hr, _, hg, _⟩ | ⟨j, e, hr, _, _, hg⟩
  · rw [hg]
    simp [execOp, ho, Instr.lookup, he.ev hx, he.ev hy, run_underlying h1, MapKept.run_getObj_map hb, run_checkKey h2 isKey_i64, hr, zeroValue, typeInfo, h3, h4]
  · rw [hg]
    simp [execOp, ho, Instr.lookup, he.ev hx, he.ev hy, run_underlying h1, MapKept.run_getObj_map hb, run_checkKey h2 isKey_i64, hr]
theorem V.lookupOk {x y : Operand} (ho : o.op = .lookup T x y true) (hT : MapTy P T V zv) (hx : ev al x = some (.map (some b))) (hy : ev al y = some (vI i)) (hp : Pick (Mp b es) L L1) : OpV P n κ al L o (.tuple #[(mget es i).getD zv, .bool (mget es i).isSome]) := fun a w he hs => by
  obtain ⟨K, ti, h1, h2, h3, h4⟩ := hT
  obtain ⟨ms, clock, hb, hst, hpm⟩ := hs.mp hp
  obtain ⟨hks, hf⟩ := find_mp (w := w) h2 hst hpm i
  rcases hf with ⟨hr, _, hg, _⟩ | ⟨j, e, hr, _, _, hg⟩
  · rw [hg]
    simp [execOp, ho, Instr.lookup, he.ev hx, he.ev hy, run_underlying h1, MapKept.run_getObj_map hb, run_checkKey h2 isKey_i64, hr, zeroValue, typeInfo, h3, h4]
  · rw [hg]
    simp [execOp, ho, Instr.lookup, he.ev hx, he.ev hy, run_underlying h1, MapKept.run_getObj_map hb, run_checkKey h2 isKey_i64, hr]

theorem sys_set (w : World) (b : Nat) (o : Obj) : Sys w { w with heap := w.heap.setIfInBounds b o } := ⟨rfl, rfl, rfl⟩

theorem mdel_absent (h : ∀ x ∈ es, x.1 ≠ i) : mdel es i = es := by
  rw [mdel, List.filter_eq_self]; intro x hx; simpa using h x hx

theorem perm_del {ms : List MapEntry} {j : Nat} {e : MapEntry} (hp : (ms.map mkv).Perm (es.map kv)) (hn : (es.map (·.1)).Nodup) (hj : ms[j]? = some e) (hk : e.key = vI i) : ((ms.eraseIdx j).map mkv).Perm ((mdel es i).map kv) := by
  obtain ⟨hlt, rfl⟩ := List.getElem?_eq_some_iff.1 hj
  obtain ⟨x, hx, e2⟩ := mem_of_perm hp (List.getElem_mem hlt)
  have hx1 : x.1 = i := by
    have : ms[j].key = vI x.1 := congrArg Prod.fst e2
    rw [hk] at this; simpa using this.symm
  have h1 : (x :: mdel es i).Perm es := by
    subst hx1
    clear hp hj hk e2
    induction es with
    | nil => cases hx
    | cons y es ih =>
      rw [List.map_cons, List.nodup_cons] at hn
      rcases List.mem_cons.1 hx with rfl | hx
      · have : mdel (x :: es) x.1 = es := by
          simp only [mdel, List.filter_cons, ne_eq, not_true_eq_false, decide_false, Bool.false_eq_true, if_false]
          rw [List.filter_eq_self]
          intro z hz
          simp only [decide_eq_true_eq]
          exact fun e => hn.1 (e ▸ List.mem_map_of_mem hz)
        rw [this]
      · have hne : y.1 ≠ x.1 := fun e => hn.1 (e ▸ List.mem_map_of_mem hx)
        have : mdel (y :: es) x.1 = y :: mdel es x.1 := by simp [mdel, hne]
        rw [this]
        exact (List.Perm.swap _ _ _).trans ((ih hn.2 hx).cons y)
  have h2 : (mkv ms[j] :: (ms.eraseIdx j).map mkv).Perm (kv x :: (mdel es i).map kv) := by
    have := (perm_eraseIdx hlt).map mkv
    rw [List.map_cons] at this
    refine this.trans (hp.trans ?_)
    rw [← List.map_cons]
    exact (h1.map kv).symm
  rw [e2] at h2
  exact h2.cons_inv

theorem E.mapUpdate {x y u : Operand} {v : Value} (ho : o.op = .mapUpdate T x y u) (hT : MapTy P T V zv) (hx : ev al x = some (.map (some b))) (hy : ev al y = some (vI i)) (hu : ev al u = some v) (hp : Pick (Mp b es) L L1) :
    OpE P n κ al L o fun _ M => M = Mp b (mput es i v) :: L1 := OpE.of_run fun a w he hs => by
  obtain ⟨K, ti, h1, h2, h3, h4⟩ := hT
  obtain ⟨ms, clock, hb, hst, hpm⟩ := hs.mp hp
  have hn := Mp.nodup hst hpm
  obtain ⟨hks, hf⟩ := find_mp (w := w) h2 hst hpm i
  rcases hf with ⟨hr, hno, hg, hno2⟩ | ⟨j, e, hr, hj, hk, hg⟩
  · refine ⟨undef, _, _, .inr ⟨?_, rfl⟩, rfl, hs.mpNew (ms' := ms.push { key := vI i, val := v, born := clock }) (clock' := clock + 1) hp (sys_set w b _) (heap_set hb).1 (heap_set hb).2 (stamped_push hst hno) ?_⟩
    · simp [execOp, ho, Instr.mapUpdate, he.ev hx, he.ev hy, he.ev hu, run_underlying h1, MapKept.run_getObj_map hb, run_checkKey h2 isKey_i64, hr, run_setObj_map _ hb]
    · rw [mput, mdel_absent hno2]
      simp only [Array.toList_push, List.map_append, List.map_cons, List.map_nil]
      exact (List.perm_append_singleton _ _).trans (hpm.cons _)
  · have hj2 : ms[j]? = some e := by simpa using hj
    refine ⟨undef, _, _, .inr ⟨?_, rfl⟩, rfl, hs.mpNew (ms' := ms.modify j fun e => { e with key := vI i, val := v }) (clock' := clock) hp (sys_set w b _) (heap_set hb).1 (heap_set hb).2 (stamped_modify hst j _ (fun _ _ => rfl) (fun e' _ he' => ?_)) ?_⟩
    · simp [execOp, ho, Instr.mapUpdate, he.ev hx, he.ev hy, he.ev hu, run_underlying h1, MapKept.run_getObj_map hb, run_checkKey h2 isKey_i64, hr, hj2, hk, run_keyThatStays (d := .int .i64) (k := vI i) rfl, run_setObj_map _ hb]
    · rw [hj2] at he'; cases he'; exact hk.symm
    · have hd := perm_del hpm hn hj hk
      have hlt : j < ms.toList.length := (List.getElem?_eq_some_iff.1 hj).1
      have e1 : (ms.modify j fun e => { e with key := vI i, val := v }).toList = ms.toList.set j { e with key := vI i, val := v } := by
        rw [Array.toList_modify]
        apply List.ext_getElem?
        intro q
        rw [List.getElem?_modify, List.getElem?_set]
        by_cases hq : j = q
        · subst hq; rw [hj]; simpa using hlt
        · simp [hq]
      rw [e1, mput]
      have := (perm_set (l := ms.toList) (y := { e with key := vI i, val := v }) hlt).map mkv
      refine this.symm.trans ?_
      rw [List.map_cons, List.map_cons]
      exact hd.cons _

theorem E.delete {x y : Operand} {xs : Array Operand} {ts : Array TypeId} (ho : o.op = .call ⟨.builtin .delete, xs, ts⟩) (hxs : xs = #[x, y]) (hts : ts[0]? = some T) (hT : MapTy P T V zv) (hx : ev al x = some (.map (some b))) (hy : ev al y = some (vI i)) (hp : Pick (Mp b es) L L1) :
    OpE P n κ al L o fun v M => v = .tuple #[] ∧ M = Mp b (mdel es i) :: L1 := OpE.of_run fun a w he hs => by
  subst hxs
  obtain ⟨K, ti, h1, h2, h3, h4⟩ := hT
  obtain ⟨ms, clock, hb, hst, hpm⟩ := hs.mp hp
  have hn := Mp.nodup hst hpm
  obtain ⟨hks, hf⟩ := find_mp (w := w) h2 hst hpm i
  rcases hf with ⟨hr, hno, hg, hno2⟩ | ⟨j, e, hr, hj, hk, hg⟩
  · refine ⟨_, _, _, .inl ?_, ⟨rfl, rfl⟩, hs.mpNew (ms' := ms) (clock' := clock) hp (sys_set w b _) (heap_set hb).1 (heap_set hb).2 hst (by rw [mdel_absent hno2]; exact hpm)⟩
    simp [execOp, ho, hts, resolve, invoke, builtin, Builtin.delete_, he.ev hx, he.ev hy, run_underlying h1, MapKept.run_getObj_map hb, run_checkKey h2 isKey_i64, hr, run_setObj_map _ hb]
  · refine ⟨_, _, _, .inl ?_, ⟨rfl, rfl⟩, hs.mpNew (ms' := ms.eraseIdxIfInBounds j) (clock' := clock) hp (sys_set w b _) (heap_set hb).1 (heap_set hb).2 (stamped_erase hst j) ?_⟩
    · simp [execOp, ho, hts, resolve, invoke, builtin, Builtin.delete_, he.ev hx, he.ev hy, run_underlying h1, MapKept.run_getObj_map hb, run_checkKey h2 isKey_i64, hr, run_setObj_map _ hb]
    · have hlt : j < ms.size := by simpa using (List.getElem?_eq_some_iff.1 hj).1
      rw [Array.eraseIdxIfInBounds, dif_pos hlt, Array.toList_eraseIdx]
      exact perm_del hpm hn hj hk

theorem E.clearMap {x : Operand} {xs : Array Operand} {ts : Array TypeId} (ho : o.op = .call ⟨.builtin .clear, xs, ts⟩) (hxs : xs = #[x]) (hts : ts[0]? = some T) (hT : MapTy P T V zv) (hx : ev al x = some (.map (some b))) (hp : Pick (Mp b es) L L1) :
    OpE P n κ al L o fun v M => v = .tuple #[] ∧ M = Mp b [] :: L1 := OpE.of_run fun a w he hs => by
  subst hxs
  obtain ⟨K, ti, h1, h2, h3, h4⟩ := hT
  obtain ⟨ms, clock, hb, hst, hpm⟩ := hs.mp hp
  refine ⟨_, _, _, .inl ?_, ⟨rfl, rfl⟩, hs.mpNew (ms' := #[]) (clock' := clock) hp (sys_set w b _) (heap_set hb).1 (heap_set hb).2 (stamped_empty _) (by simp)⟩
  simp [execOp, ho, hts, resolve, invoke, builtin, Builtin.clear_, he.ev hx, run_underlying h1, MapKept.run_getObj_map hb, run_setObj_map _ hb]

/- 3. LOOPS OVER A MAP -/
/-- A map and an iterator over it that has 'rem' left. -/
def MpIt (b it : Nat) (es rem : List (Int × Value)) (last : Option (Int × Value)) : Assn := fun _ h => ∃ ms clock since seen, h b = some (.map ms clock) ∧ h it = some (.mapIter (some b) since seen clock) ∧ it ≠ b ∧ Stamped ms clock ∧ (ms.toList.map mkv).Perm (es.map kv) ∧ since = clock ∧ ((leftOf ms seen).toList.map mkv).Perm (rem.map kv) ∧ ∀ x, last = some x → ∃ e ∈ ms.toList, seen.back? = some e.born ∧ mkv e = kv x

theorem MpIt.stop {it : Nat} {rem : List (Int × Value)} {last : Option (Int × Value)} : Ent (MpIt b it es rem last :: L) (Mp b es :: L) := by
  rintro z h ⟨h1, h2, z1, a, bb, c, d, ⟨ms, clock, since, seen, e1, _, _, e3, e4, _⟩, H⟩
  exact ⟨h1, h2, z1, a, bb, c, d, ⟨ms, clock, e1, e3, e4⟩, H⟩

theorem E.rangeMap {x : Operand} (ho : o.op = .range T x) (hT : MapTy P T V zv) (hx : ev al x = some (.map (some b))) (hp : Pick (Mp b es) L L1) :
    OpE P n κ al L o fun v M => ∃ it, v = ptr it 0 ∧ M = MpIt b it es es none :: L1 := OpE.of_run fun a w he hs => by
  obtain ⟨K, ti, h1, h2, h3, h4⟩ := hT
  obtain ⟨ms0, clock0, hb, hst, hpm⟩ := hs.mp hp
  have hlt : b < w.heap.size := (Array.getElem?_eq_some_iff.1 hb).1
  have hs2 := (hs.ent hp).new (A := fun _ h => h w.heap.size = some (.mapIter (some b) clock0 #[] clock0)) (o := .mapIter (some b) clock0 #[] clock0) (fun _ => by simp [Frag.one])
  refine ⟨ptr w.heap.size 0, w.alloc (.mapIter (some b) clock0 #[] clock0), _, .inl ?_, ⟨w.heap.size, rfl, rfl⟩, ?_⟩
  · have := run_range_map (P := P) w T K V b ms0 clock0 h1 hb
    simp [execOp, ho, he.ev hx, this]
  · have hb2 : (w.alloc (.mapIter (some b) clock0 #[] clock0)).heap[b]? = some (.map ms0 clock0) := by rw [heap_alloc_old w _ hlt, hb]
    obtain ⟨s, z, h, d1, d2, d3, k1, k2, z1, e1, e2, e3, e4, e5, m1, m2, z2, f1, f2, f3, f4, ⟨ms, clock, f5, f6, f7⟩, f8⟩ := hs2
    have hh : (w.alloc (.mapIter (some b) clock0 #[] clock0)).heap[b]? = some (.map ms clock) := d3 b _ (e4 b _ (f3 b _ f5))
    rw [hb2] at hh
    cases hh
    refine ⟨s, z, h, d1, d2, d3, k1.un m1, m2, z, Frag.le.refl _, ?_, Frag.un_le e3 (f3.trans e4), f4.trans e4, ⟨ms0, clock0, clock0, #[], ?_, ?_, by omega, f6, f7, rfl, ?_, fun _ h => by cases h⟩, f8⟩
    · exact Frag.un_disj (e2.mono (Frag.le.refl _) f4) f2
    · exact Frag.le_un_right (e2.mono (Frag.le.refl _) f3) b _ f5
    · exact Frag.le_un_left _ _ _ _ e5
    · have : leftOf ms0 #[] = ms0 := by simp [leftOf]
      rw [this]; exact f7

theorem Sep.mpIt {w : World} {it : Nat} {rem : List (Int × Value)} {last : Option (Int × Value)} (hs : Sep κ w (MpIt b it es rem last :: L)) : ∃ ms clock seen, w.heap[b]? = some (.map ms clock) ∧ w.heap[it]? = some (.mapIter (some b) clock seen clock) ∧ it ≠ b ∧ Stamped ms clock ∧ (ms.toList.map mkv).Perm (es.map kv) ∧ ((leftOf ms seen).toList.map mkv).Perm (rem.map kv) ∧ (∀ x, last = some x → ∃ e ∈ ms.toList, seen.back? = some e.born ∧ mkv e = kv x) ∧
    (∀ (w' : World) (seen' : Array Nat) (rem' : List (Int × Value)) (last' : Option (Int × Value)), Sys w w' → w'.heap[it]? = some (.mapIter (some b) clock seen' clock) → (∀ k, k ≠ it → w'.heap[k]? = w.heap[k]?) → ((leftOf ms seen').toList.map mkv).Perm (rem'.map kv) → (∀ x, last' = some x → ∃ e ∈ ms.toList, seen'.back? = some e.born ∧ mkv e = kv x) → Sep κ w' (MpIt b it es rem' last' :: L)) := by
  obtain ⟨s, z, h, d1, d2, d3, k1, k2, z1, e1, e2, e3, e4, ⟨ms, clock, since, seen, g1, g2, g3, g4, g5, g6, g7, g8⟩, H⟩ := hs
  subst g6
  refine ⟨ms, since, seen, d3 b _ (e3 b _ g1), d3 it _ (e3 it _ g2), g3, g4, g5, g7, g8, fun w' seen' rem' last' hw hit hk hperm hlast => ?_⟩
  have hs' : Sep κ w ((fun (_ : Frag) (h : Frag) => h b = some (.map ms since) ∧ h it = some (.mapIter (some b) since seen since)) :: L) := ⟨s, z, h, d1, d2, d3, k1, k2, z1, e1, e2, e3, e4, ⟨g1, g2⟩, H⟩
  refine hs'.change (b := it) (o := .mapIter (some b) since seen since) (o' := .mapIter (some b) since seen' since) Pick.here (fun _ h1 hA => ⟨hA.2, fun h2 hb' hk' => ⟨ms, since, since, seen', ?_, hb', g3, g4, g5, rfl, hperm, hlast⟩⟩) hw hit hk
  rw [hk' b (Ne.symm g3)]; exact hA.1

theorem E.nextMap {it : Nat} {rem : List (Int × Value)} {last : Option (Int × Value)} {x : Operand} (ho : o.op = .next x false) (hx : ev al x = some (ptr it 0)) (hp : Pick (MpIt b it es rem last) L L1) :
    OpE P n κ al L o fun v M => (rem = [] ∧ v = .tuple #[.bool false] ∧ M = MpIt b it es [] last :: L1) ∨ ∃ x rem', x ∈ rem ∧ rem.Perm (x :: rem') ∧ v = .tuple #[.bool true, vI x.1, x.2] ∧ M = MpIt b it es rem' (some x) :: L1 := OpE.of_run fun a w he hs => by
  obtain ⟨ms, clock, seen, hb, hit, hne, hst, hpm, hleft, _, hnew⟩ := (hs.ent hp).mpIt
  have htest := next_test_false seen ms clock clock hst.1 (Nat.le_refl _)
  have hx' := he.ev hx
  have hget : (getObj it).run P w = .ok (.mapIter (some b) clock seen clock) w := by simp [getObj, Sem.run, hit]
  have hset : ∀ o', (setObj it o').run P w = .ok () { w with heap := w.heap.setIfInBounds it o' } := fun o' => by simp [setObj, Sem.run, hit]
  have hmem : ∀ y ∈ (leftOf ms seen).toList, y.born < clock ∧ y ∈ ms.toList := fun y hy => by
    have h2 : y ∈ ms.toList := by simp [leftOf] at hy ⊢; exact hy.1
    exact ⟨hst.1 y h2, h2⟩
  have e1 : (leftOf ms seen).filter (fun x => decide (x.born < clock)) = leftOf ms seen := Array.filter_eq_self.2 (fun y hy => by simpa using (hmem y (by simpa using hy)).1)
  have e2 : (leftOf ms seen).filter (fun x => decide (x.born ≥ clock)) = #[] := by
    rw [Array.filter_eq_empty_iff]
    intro y hy
    have := (hmem y (by simpa using hy)).1
    simp; omega
  have hdef : leftOf ms seen = ms.filter fun e => !seen.contains e.born := rfl
  by_cases h0 : (leftOf ms seen).size = 0
  · have hemp : leftOf ms seen = #[] := Array.eq_empty_of_size_eq_zero h0
    have hrem : rem = [] := by
      rw [hemp] at hleft
      have := hleft.length_eq
      simpa using this.symm
    subst hrem
    refine ⟨_, w, _, .inl ?_, .inl ⟨rfl, rfl, rfl⟩, hs.ent hp⟩
    rw [hemp] at e1 e2
    simp only [execOp, ho, hx', Instr.next, Sem.run_bind, hget, MapKept.run_getObj_map hb, Result.andThen, htest, Bool.false_eq_true, if_false, ← hdef, hemp]
    simp [choose, Sem.run, Question.forced]
  · have hne' : (leftOf ms seen).isEmpty = false := by simp [Array.isEmpty, h0]
    have hch : ∃ (j : Nat) (dr : Nat), j < (leftOf ms seen).size ∧ (choose (Question.mapNext (leftOf ms seen).size)).run P w = .ok j { w with drawn := dr } := by
      by_cases hf : (leftOf ms seen).size ≤ 1
      · exact ⟨0, w.drawn, by omega, by simp [choose, Sem.run, Question.forced, hf]⟩
      · exact ⟨_, w.drawn + 1, Nat.mod_lt _ (by omega), by
          simp only [choose, Sem.run, Question.forced, decide_eq_true_eq, hf, if_false, Question.cut]
          rfl⟩
    obtain ⟨j, dr, hj, hrun⟩ := hch
    let e := (leftOf ms seen)[j]
    have heL : e ∈ (leftOf ms seen).toList := by simp [e]
    obtain ⟨x, hxr, hxe⟩ := mem_of_perm hleft heL
    obtain ⟨q, hq⟩ := List.getElem?_of_mem hxr
    have hq2 := List.getElem?_eq_some_iff.1 hq
    obtain ⟨hqlt, hqe⟩ := hq2
    have hperm : rem.Perm (x :: rem.eraseIdx q) := by
      have := (perm_eraseIdx hqlt).symm
      rwa [hqe] at this
    have hset' : (setObj it (.mapIter (some b) clock (seen.push e.born) clock)).run P { w with drawn := dr } = .ok () { w with drawn := dr, heap := w.heap.setIfInBounds it (.mapIter (some b) clock (seen.push e.born) clock) } := by simp [setObj, Sem.run, hit]
    have hkey : e.key = vI x.1 := congrArg Prod.fst hxe
    have hval : e.val = x.2 := congrArg Prod.snd hxe
    -- what is left then
    have hleft' : ((leftOf ms (seen.push e.born)).toList.map mkv).Perm ((rem.eraseIdx q).map kv) := by
      have hfil : leftOf ms (seen.push e.born) = (leftOf ms seen).filter (fun y => y.born != e.born) := by
        simp only [leftOf, Array.filter_filter]
        have hfc : ∀ (f g : MapEntry → Bool), f = g → ms.filter f = ms.filter g := fun _ _ h => by rw [h]
        apply hfc
        funext y
        rw [Array.contains_push, Bool.not_or, bne]
        cases (y.born == e.born) <;> cases seen.contains y.born <;> rfl
      have hnd : ((leftOf ms seen).toList.map (·.born)).Nodup := by
        have hsub : (leftOf ms seen).toList.Sublist ms.toList := by simp [leftOf]
        exact (hsub.map _).nodup hst.2.1
      have hsplit : ((leftOf ms seen).toList).Perm (e :: ((leftOf ms seen).toList.filter (fun y => y.born != e.born))) := by
        generalize (leftOf ms seen).toList = l at hnd heL
        clear hfil
        induction l with
        | nil => cases heL
        | cons y l ih =>
          rw [List.map_cons, List.nodup_cons] at hnd
          by_cases hye : y = e
          · subst hye
            have : (e :: l).filter (fun z => z.born != e.born) = l := by
              rw [List.filter_cons_of_neg (by simp), List.filter_eq_self]
              intro z hz
              simp only [bne_iff_ne, ne_eq]
              exact fun h => hnd.1 (h ▸ List.mem_map_of_mem (f := MapEntry.born) hz)
            rw [this]
          · have heL' : e ∈ l := by
              rcases List.mem_cons.1 heL with h | h
              · exact absurd h.symm hye
              · exact h
            have hne2 : y.born ≠ e.born := fun h => hnd.1 (h ▸ List.mem_map_of_mem (f := MapEntry.born) heL')
            have : (y :: l).filter (fun z => z.born != e.born) = y :: l.filter (fun z => z.born != e.born) := by simp [hne2]
            rw [this]
            exact ((ih hnd.2 heL').cons y).trans (List.Perm.swap _ _ _)
      have h1 := hsplit.map mkv
      rw [List.map_cons] at h1
      have h2 := (h1.symm.trans hleft).trans (hperm.map kv)
      rw [List.map_cons, hxe] at h2
      rw [hfil, Array.toList_filter]
      exact h2.cons_inv
    refine ⟨_, { w with drawn := dr, heap := w.heap.setIfInBounds it (.mapIter (some b) clock (seen.push e.born) clock) }, _, .inl ?_, .inr ⟨x, rem.eraseIdx q, hxr, hperm, rfl, rfl⟩, hnew _ (seen.push e.born) _ _ ⟨rfl, rfl, rfl⟩ (heap_set hit).1 (heap_set hit).2 hleft' (fun y hy => ⟨e, (hmem e heL).2, Array.back?_push .., by cases hy; exact hxe⟩)⟩
    simp only [execOp, ho, hx', Instr.next, Sem.run_bind, hget, MapKept.run_getObj_map hb, Result.andThen, htest, Bool.false_eq_true, if_false, ← hdef, e1, e2, Array.append_empty, hne', Array.empty_append, Array.size_map, hrun, Array.getElem?_map, Array.getElem?_eq_getElem hj, Option.map_some]
    simp only [e] at hset' hkey hval
    simp only [hset', hkey, hval]
    rfl
theorem V.entryMap {it : Nat} {rem : List (Int × Value)} {e : Int × Value} {x : Operand} (ho : o.op = .entry x) (hx : ev al x = some (ptr it 0)) (hp : Pick (MpIt b it es rem (some e)) L L1) : OpV P n κ al L o (.tuple #[vI e.1, e.2]) := fun a w he hs => by
  obtain ⟨ms, clock, seen, hb, hit, hne, hst, hpm, _, hlast, _⟩ := (hs.ent hp).mpIt
  obtain ⟨m, hm, hback, hme⟩ := hlast e rfl
  have hget : (getObj it).run P w = .ok (.mapIter (some b) clock seen clock) w := by simp [getObj, Sem.run, hit]
  have hf : ms.find? (·.born == m.born) = some m := by rw [← Array.find?_toList]; exact find_born m ms.toList hst.2.1 hm
  have hk : m.key = vI e.1 := congrArg Prod.fst hme
  have hv : m.val = e.2 := congrArg Prod.snd hme
  simp only [execOp, ho, he.ev hx, Instr.entry, Sem.run_bind, hget, Result.andThen, hback, MapKept.run_getObj_map hb, bne_self_eq_false, Bool.false_eq_true, if_false, hf, hk, hv]
  rfl
end
end Go.Wk
