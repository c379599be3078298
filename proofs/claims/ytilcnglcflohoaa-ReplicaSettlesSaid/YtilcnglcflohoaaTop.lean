/- From a law's arguments, as the statements read them, to assertions on memory; and from the walk back to the statement. -/
import Derived.Test.YtilcnglcflohoaaRead
import Derived.ProofKit
import Derived.OpenShut
import Derived.ChangeCalls
namespace Go.Wk
open Go.ChangeShapes Go.RowKit

/-- What the reading of a value of type t says, in our terms. -/
structure Opens (P : Program) (t : TypeId) {α : Type} (T : Rep α) : Prop where
  sz : P.cellsOf t = T.sz
  op : ∀ {H : Type} {enc : TypeId × Value → H} {W : World} {n : Nat} {cs : List Value} {x : DataW H × List MemPlace}, DataW.trod enc P W 0 (fun _ => true) true n t cs = some x → ∃ y, T.rep (Frag.of W) cs y

section
variable {P : Program} {t e : TypeId} {α : Type} {T : Rep α}

theorem trod_int {k : IntKind} {H : Type} {enc : TypeId × Value → H} {W : World} {n : Nat} {cs : List Value} {x : DataW H × List MemPlace} (ht : P.underlying t = some (.int k)) (h : DataW.trod enc P W 0 (fun _ => true) true n t cs = some x) :
    ∃ i : Int, cs = [.int k i] ∧ k.min ≤ i ∧ i ≤ k.max := by
  obtain ⟨i, e, _, hw⟩ := DataW.trod_int ht h
  simp only [Lit.wf, Bool.and_eq_true, decide_eq_true_eq] at hw
  exact ⟨i, e, hw.1, hw.2⟩

theorem Opens.u8 (ht : P.underlying t = some (.int .u8)) (hc : P.cellsOf t = 1) : Opens P t R8 := ⟨hc, fun h => by
  obtain ⟨i, rfl, h1, h2⟩ := trod_int ht h
  have h1' : 0 ≤ i := h1
  have h2' : i ≤ 255 := h2
  refine ⟨UInt8.ofNat i.toNat, ?_, trivial⟩
  have : ((UInt8.ofNat i.toNat).toNat : Int) = i := by rw [UInt8.toNat_ofNat']; omega
  simp only [v8, this]⟩
theorem Opens.u32 (ht : P.underlying t = some (.int .u32)) (hc : P.cellsOf t = 1) : Opens P t R32 := ⟨hc, fun h => by
  obtain ⟨i, rfl, h1, h2⟩ := trod_int ht h
  have h1' : 0 ≤ i := h1
  have h2' : i ≤ 4294967295 := h2
  refine ⟨UInt32.ofNat i.toNat, ?_, trivial⟩
  have : ((UInt32.ofNat i.toNat).toNat : Int) = i := by rw [UInt32.toNat_ofNat']; omega
  simp only [v32, this]⟩
theorem Opens.u64 (ht : P.underlying t = some (.int .u64)) (hc : P.cellsOf t = 1) : Opens P t R64 := ⟨hc, fun h => by
  obtain ⟨i, rfl, h1, h2⟩ := trod_int ht h
  have h1' : 0 ≤ i := h1
  have h2' : i ≤ 18446744073709551615 := h2
  refine ⟨UInt64.ofNat i.toNat, ?_, trivial⟩
  have : ((UInt64.ofNat i.toNat).toNat : Int) = i := by rw [UInt64.toNat_ofNat']; omega
  simp only [v64, this]⟩
theorem Opens.i64 (ht : P.underlying t = some (.int .i64)) (hc : P.cellsOf t = 1) : Opens P t RI := ⟨hc, fun h => by
  obtain ⟨i, rfl, h1, h2⟩ := trod_int ht h
  exact ⟨i, rfl, h1, h2⟩⟩
theorem Opens.bool (ht : P.underlying t = some .bool) (hc : P.cellsOf t = 1) : Opens P t RB := ⟨hc, fun h => by
  obtain ⟨b, rfl, _⟩ := DataW.trod_bool ht h
  exact ⟨b, rfl, trivial⟩⟩
theorem Opens.str (ht : P.underlying t = some .string) (hc : P.cellsOf t = 1) : Opens P t RS := ⟨hc, fun h => by
  obtain ⟨s, rfl, _, hs⟩ := DataW.trod_string ht h
  refine ⟨s.data.toList, rfl, ?_⟩
  have : s.size = s.data.toList.length := rfl
  have hm : maxLen = 9223372036854775807 := rfl
  omega⟩

theorem add_block (a : Addr) (m : Nat) : (a.add m).block = a.block := by unfold Addr.add; split <;> rfl
theorem add_off (a : Addr) (m : Nat) : (a.add m).off = a.off + m := by
  unfold Addr.add; split
  · rename_i h; omega
  · rfl
theorem cells_row {W : World} {a : Addr} {n : Nat} {cs : List Value} (h : W.cells? 0 a n = some cs) (hn : 0 < n) : a.spot = none ∧ Row (Frag.of W) a.block a.off cs := by
  obtain ⟨_, hl, hc⟩ := World.cells?_some h
  have key : ∀ i u, cs[i]? = some u → (a.add i).spot = none ∧ cellAt (Frag.of W) a.block (a.off + i) = some u := by
    intro i u hu
    have hi : i < n := by rw [← hl]; exact (List.getElem?_eq_some_iff.1 hu).1
    have := hc i hi
    rw [hu] at this
    simp only [World.cell?] at this
    rw [add_block, add_off] at this
    simp only [cellAt, Frag.of]
    cases hb : W.heap[a.block]? with
    | none => rw [hb] at this; cases this
    | some o =>
      rw [hb] at this
      cases o with
      | cells c _ _ =>
        cases hs : (a.add i).spot with
        | none => exact ⟨rfl, by rw [hs] at this; simpa using this⟩
        | some _ => rw [hs] at this; simp at this
      | _ => cases this
  refine ⟨?_, fun i u hu => (key i u hu).2⟩
  have h0 : 0 < cs.length := by omega
  exact (key 0 cs[0] (List.getElem?_eq_getElem h0)).1

theorem Row.join {z : Frag} {b o : Nat} {cs cs' : List Value} (h : Row z b o cs) (h' : Row z b (o + cs.length) cs') : Row z b o (cs ++ cs') := fun i u hu => by
  by_cases hi : i < cs.length
  · rw [List.getElem?_append_left hi] at hu; exact h i u hu
  · rw [List.getElem?_append_right (by omega)] at hu
    have := h' _ u hu
    rwa [show o + cs.length + (i - cs.length) = o + i from by omega] at this

theorem Opens.slice (ht : P.underlying t = some (.slice e)) (hc : P.cellsOf t = 1) (O : Opens P e T) (h0 : 0 < T.sz) : Opens P t (Rep.slice T) := ⟨hc, fun {H enc W n cs x} h => by
  rcases DataW.trod_slice ht h with ⟨rfl, _⟩ | ⟨a, len, cap, elems, rest, n', _, rfl, _, _, hlc, hcm, hel, hget, _, _⟩
  · exact ⟨[], none, 0, 0, rfl, rfl, Nat.le_refl _, by omega, .inl rfl⟩
  · rw [O.sz] at hget
    -- the cells and the data, one place at a time
    have key : ∀ k, k ≤ len → ∃ (cs : List Value) (l : List α), l.length = k ∧ T.rows (Frag.of W) cs l ∧ (0 < k → a.spot = none) ∧ Row (Frag.of W) a.block a.off cs := by
      intro k
      induction k with
      | zero => exact fun _ => ⟨[], [], rfl, Rep.rows.nil T _, fun h => absurd h (by omega), fun i u hu => by simp at hu⟩
      | succ k ih =>
        intro hk
        obtain ⟨cs, l, e1, e2, e3, e4⟩ := ih (by omega)
        have hy := hget k (by omega)
        rw [List.getElem?_eq_getElem (by omega)] at hy
        cases hcs : W.cells? 0 (a.add (k * T.sz)) T.sz with
        | none => rw [hcs] at hy; cases hy
        | some us =>
          rw [hcs] at hy
          obtain ⟨d, hd⟩ := O.op hy
          obtain ⟨f1, f2⟩ := cells_row hcs h0
          have hcl : cs.length = k * T.sz := by rw [e2.1, e1]
          rw [add_block, add_off] at f2
          have f3 : a.spot = none := by
            by_cases hk0 : k = 0
            · subst hk0
              rw [Nat.zero_mul] at f1
              exact f1
            · exact e3 (by omega)
          refine ⟨cs ++ us, l ++ [d], by simp [e1], Rep.rows.append e2 (Rep.rows.single hd), fun _ => f3, e4.join ?_⟩
          rw [hcl]; exact f2
    obtain ⟨cs, l, e1, e2, e3, e4⟩ := key len (Nat.le_refl _)
    refine ⟨l, some a, len, cap, rfl, e1, hlc, by have hm : maxLen = 9223372036854775807 := rfl; omega, ?_⟩
    by_cases hl : len = 0
    · exact .inl hl
    · refine .inr ⟨a.block, a.off, cs, ?_, e4, e2⟩
      have := e3 (by omega)
      cases a; simp at this; subst this; rfl⟩

/-- The fields of a struct. -/
theorem trod_fields {fs : Array Field} {H : Type} {enc : TypeId × Value → H} {W : World} {n : Nat} {cs : List Value} {x : DataW H × List MemPlace} (ht : P.underlying t = some (.struct fs)) (h : DataW.trod enc P W 0 (fun _ => true) true n t cs = some x) :
    cs.length = P.cellsOf t ∧ ∃ n', ∀ (i : Nat) (f : Field), fs[i]? = some f → ∃ y, DataW.trod enc P W 0 (fun _ => true) true n' f.type ((cs.drop f.offset).take (P.cellsOf f.type)) = some y := by
  obtain ⟨xs, n', _, _, hl, hlen, hget⟩ := DataW.trod_struct ht h
  refine ⟨hl, n', fun i f hf => ?_⟩
  have hi : i < fs.size := (Array.getElem?_eq_some_iff.1 hf).1
  rw [hget i f hf, List.getElem?_eq_getElem (by omega)]
  exact ⟨_, rfl⟩

/-- An argument of one cell. -/
theorem Opens.arg {r : Reach} {base : Nat} {H : Type} {enc : TypeId × Value → H} {W : World} {v : Value} {d : DataW H} {ps : List MemPlace} (O : Opens P t T) (hs : ∀ fs, P.underlying t ≠ some (.struct fs)) (hr : ∀ n e, P.underlying t ≠ some (.array n e))
    (hval : Value.okWide P W r base t v) (h : DataW.Trod enc P W 0 (fun _ => true) true t v d ps) : ∃ y, T.rep (Frag.of W) [v] y := by
  obtain ⟨n, hn⟩ := h
  obtain ⟨y, hy⟩ := O.op hn
  refine ⟨y, ?_⟩
  have hv : v.cells = #[v] := by
    cases v with
    | agg cs =>
      exfalso
      unfold Value.okWide at hval
      split at hval
      · rename_i fs hf; exact hs fs hf
      · rename_i m e' hf; exact hr m e' hf
      · unfold Cell.okWide at hval
        split at hval <;> try (rename_i h1; cases h1)
        unfold Cell.ok at hval
        split at hval <;> simp_all
    | _ => rfl
  rw [hv] at hy
  exact hy
theorem Opens.argS {r : Reach} {base : Nat} {H : Type} {enc : TypeId × Value → H} {W : World} {v : Value} {d : DataW H} {ps : List MemPlace} {fs : Array Field} (O : Opens P t T) (hs : P.underlying t = some (.struct fs))
    (hval : Value.okWide P W r base t v) (h : DataW.Trod enc P W 0 (fun _ => true) true t v d ps) : ∃ us y, v = .agg us.toArray ∧ T.rep (Frag.of W) us y := by
  obtain ⟨n, hn⟩ := h
  obtain ⟨y, hy⟩ := O.op hn
  unfold Value.okWide at hval
  rw [hs] at hval
  obtain ⟨cs, rfl, _⟩ := hval
  exact ⟨cs.toList, y, rfl, hy⟩
end

/- THE BEGINNING AND THE END -/
/-- What was there when the law was called is there. -/
def Old (κ : World) : Assn := ro fun z => ∀ k, k < κ.heap.size → z k = κ.heap[k]?
theorem Sep.start (κ : World) (Rs : List (Frag → Prop)) (h : ∀ R ∈ Rs, R (Frag.of κ)) : Sep κ κ (Old κ :: Rs.map ro) := by
  refine ⟨Sys.refl _, Frag.of κ, Frag.emp, fun _ => .inr rfl, Frag.le.refl _, Frag.emp_le _, Holds.add_ro (fun k _ => rfl) ?_⟩
  induction Rs with
  | nil => trivial
  | cons R Rs ih => exact Holds.add_ro (h R (List.mem_cons_self ..)) (ih fun R' h' => h R' (List.mem_cons_of_mem _ h'))
theorem Sep.below {κ w : World} {L : List Assn} (hs : Sep κ w L) (hm : Old κ ∈ L) : Below κ.heap.size κ w := by
  obtain ⟨z, hz, hr⟩ := hs.get_ro hm
  have hb : ∀ k, k < κ.heap.size → w.heap[k]? = κ.heap[k]? := fun k hk => by
    have h1 := hr k hk
    rw [Array.getElem?_eq_getElem hk] at h1 ⊢
    exact hz k _ h1
  refine ⟨hs.1.os, hs.1.tape, hs.1.output, ?_, hb⟩
  by_cases h0 : κ.heap.size = 0
  · omega
  · have h1 := hb (κ.heap.size - 1) (by omega)
    rw [Array.getElem?_eq_getElem (xs := κ.heap) (by omega)] at h1
    have := (Array.getElem?_eq_some_iff.1 h1).1
    omega

theorem TrodAll.below {H : Type} {enc : TypeId × Value → H} {P : Program} (hl : laidOutB P = true) {W W' : World} (hb : Below W.heap.size W W') {sp : Nat → Bool} : ∀ {ts : List TypeId} {vs : List Value} {ds : List (DataW H)} {ps : List MemPlace},
    (∀ t ∈ ts, P.readableRec t = true ∧ t < P.types.size) → DataW.TrodAll enc P W 0 (fun _ => true) true ts vs ds ps → (∀ p ∈ ps, p.block < W.heap.size) → (∀ p ∈ ps, sp p.block = true) → DataW.TrodAll enc P W' 0 sp true ts vs ds ps
  | [], vs, ds, ps, _, h, _, _ => by
    obtain ⟨rfl, rfl, rfl⟩ := trodAll_nil h
    exact trodAll_mk0
  | t :: ts, vs, ds, ps, ht, h, hlt, hsp => by
    obtain ⟨v, vs', d, ds', p, q, rfl, rfl, rfl, h1, h2⟩ := trodAll_cons h
    obtain ⟨g1, g2⟩ := ht t (List.mem_cons_self ..)
    exact ⟨p, q, WideElems.Trod_stays hl g1 g2 h1 (fun x hx => hb.same (hlt x (List.mem_append.2 (.inl hx)))) (fun x hx => hsp x (List.mem_append.2 (.inl hx))),
      TrodAll.below hl hb (fun t' h' => ht t' (List.mem_cons_of_mem _ h')) h2 (fun x hx => hlt x (List.mem_append.2 (.inr hx))) (fun x hx => hsp x (List.mem_append.2 (.inr hx))), rfl⟩

theorem frozen_below {W W' : World} (hb : Below W.heap.size W W') {a : Addr} (ha : a.block < W.heap.size) : W'.frozen? a = W.frozen? a := hb.frozen ha

/-- A law that returns true and leaves its arguments as they were. -/
theorem law_post {H : Type} {enc : TypeId × Value → H} {P : Program} {f : FuncId} {fn : Func} {s : ChangeSpec} {apart fresh handsOn again : Bool} {W : World} {args : Array Value} {ds gs : List (DataW H)} {before : List MemPlace} {tb : TypeId}
    (hvars : s.vars = []) (hres : fn.resultTypes = #[tb]) (hub : P.underlying tb = some .bool) (hspec : ∀ ds' : List (DataW H), ds'.length = fn.params.size → s.fn H ds' = { results := [.lit (.bool true)], args := ds' }) (hlaid : laidOutB P = true)
    (hpt : ∀ t ∈ fn.params.toList, P.readableRec t = true ∧ t < P.types.size) (hW : DataW.Whole enc P fn.params.toList s.vars apart W args.toList ds gs before)
    (walk : ∃ L, Old W ∈ L ∧ Sep W W L ∧ Ctr P f args W L (fun v M => v = vB true ∧ M = L)) :
    Calls P f args W fun e W' => ∃ v, e = .returned v ∧ s.post enc P fn apart fresh handsOn again W args v W' := by
  obtain ⟨L, hold, hsep, hctr⟩ := walk
  refine (hctr W hsep).mono ?_
  rintro e W' ⟨v, he, M, ⟨rfl, rfl⟩, hs'⟩
  have hb := hs'.below hold
  refine ⟨_, he, ?_⟩
  obtain ⟨p, q, hA, hV, hbe, hfz, hnd⟩ := hW
  have hW0 : DataW.Whole enc P fn.params.toList s.vars apart W args.toList ds gs before := ⟨p, q, hA, hV, hbe, hfz, hnd⟩
  have hlt := hW0.lt
  rw [hvars] at hV
  obtain ⟨rfl, rfl⟩ := trodVars_none hV
  rw [List.append_nil] at hbe
  subst hbe
  have hlen : ds.length = fn.params.size := by rw [(Go.trodAll_length hA).2]; simp
  have hs := hspec ds hlen
  refine ⟨ds, [], before, [], before, [], hW0, ?_, ?_, ?_, hb.frame _, fun _ => ?_⟩
  · rw [List.append_nil, hs, hres]
    exact trodAll_mk1 (shut_bool hub true)
  · rw [List.append_nil, hs]
    exact TrodAll.below hlaid hb hpt hA hlt fun x hx => by simpa using hlt x hx
  · rw [List.append_nil, hs, hvars]; rfl
  · refine ⟨ok_one hres rfl (okWide_bool_mk hub true), .lit (.bool true) :: ds, [], [] ++ before, ⟨[] ++ before, [], ?_, ?_, by simp, ?_, ?_⟩, ?_⟩
    · rw [hres]
      exact trodAll_append (TrodAll.below hlaid hb hpt hA hlt fun _ _ => rfl) (trodAll_mk1 (shut_bool hub true))
    · rw [hvars]; rfl
    · intro b off hp
      have hp' : MemPlace.cell b off ∈ before := by simpa using hp
      rw [hb.frozen (p := ⟨b, off, none⟩) (hlt _ hp')]
      exact hfz b off (by simpa using hp)
    · intro ha
      simpa using hnd ha
    · intro x hx _
      simpa using hx
end Go.Wk
