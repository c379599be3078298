/- How long the byte slices within an argument are. -/
import Derived.Test.YtcbloadpffjkiaaDoorKernB
namespace Go.Wk
open Go.WideShapes
section
variable {P : Program} {H : Type} {enc : TypeId × Value → H} {W : World}
theorem weightsAll_mem {e : TypeId} : ∀ {l : List (DataW H)} {d : DataW H}, d ∈ l → ∀ n ∈ d.weights P e, n ∈ DataW.weightsAll P e l
  | d0 :: l, d, hd, n, hn => by
    rw [DataW.weightsAll, List.mem_append]
    rcases List.mem_cons.1 hd with rfl | hd
    · exact .inl hn
    · exact .inr (weightsAll_mem hd n hn)
theorem bytes_sized {t e : TypeId} (ht : P.underlying t = some (.slice e)) (hb : P.bytesOf e = 1) (O : Opens P t (Rep.slice R8)) {R n : Nat} {cs : List Value} {x : DataW H × List MemPlace} (h : DataW.trod enc P W 0 (fun _ => true) true n t cs = some x) (hw : ∀ k ∈ x.1.weights P t, k ≤ R) : ∃ y : List UInt8, (Rep.slice R8).rep (Frag.of W) cs y ∧ y.length ≤ R := by
  obtain ⟨y, hy⟩ := O.op h
  refine ⟨y, hy, ?_⟩
  obtain ⟨a, m, c, e1, hl, hc, hc63, k⟩ := hy
  rcases DataW.trod_slice ht h with ⟨rfl, _⟩ | ⟨a', len, cap, elems, rest, n', _, rfl, rfl, _, _, _, hel, _, _, _⟩
  · cases e1; omega
  · have hm : m = len := by cases e1; rfl
    have := hw ((elems.length + rest.length) * P.bytesOf e) (by
      simp only [DataW.weights, ht, List.length_map]
      exact List.Mem.head _)
    rw [hb] at this
    omega
/-- A slice of byte slices, each at most R long. -/
theorem opens_each {t u e : TypeId} (ht : P.underlying t = some (.slice u)) (hu : P.underlying u = some (.slice e)) (hsz : P.cellsOf u = 1) (hb : P.bytesOf e = 1) (O : Opens P u (Rep.slice R8)) {R n : Nat} {cs : List Value} {x : DataW H × List MemPlace}
    (h : DataW.trod enc P W 0 (fun _ => true) true n t cs = some x) (hw : ∀ k ∈ x.1.weights P t, k ≤ R) : ∃ y : List (List UInt8), (Rep.slice (Rep.slice R8)).rep (Frag.of W) cs y ∧ ∀ z ∈ y, z.length ≤ R := by
  rcases DataW.trod_slice ht h with ⟨rfl, rfl⟩ | ⟨a, len, cap, elems, rest, n', _, rfl, rfl, _, hlc, hcm, hel, hget, _, _⟩
  · exact ⟨[], ⟨none, 0, 0, rfl, rfl, Nat.le_refl _, by omega, .inl rfl⟩, fun _ h => by cases h⟩
  · have hsz' : P.cellsOf u = (Rep.slice R8).sz := hsz
    have h0 : 0 < (Rep.slice R8).sz := by decide
    rw [hsz'] at hget
    have hwe : ∀ d ∈ elems, ∀ k ∈ d.1.weights P u, k ≤ R := fun d hd k hk => hw k (by
      simp only [DataW.weights, ht]
      refine List.Mem.tail _ (List.mem_append_left _ ?_)
      exact weightsAll_mem (List.mem_map_of_mem hd) k hk)
    have key : ∀ k, k ≤ len → ∃ (cs : List Value) (l : List (List UInt8)), l.length = k ∧ (Rep.slice R8).rows (Frag.of W) cs l ∧ (0 < k → a.spot = none) ∧ Row (Frag.of W) a.block a.off cs ∧ ∀ z ∈ l, z.length ≤ R := by
      intro k
      induction k with
      | zero => exact fun _ => ⟨[], [], rfl, Rep.rows.nil _ _, fun h => absurd h (by omega), fun i u hu => by simp at hu, fun _ h => by cases h⟩
      | succ k ih =>
        intro hk
        obtain ⟨cs, l, e1, e2, e3, e4, e5⟩ := ih (by omega)
        have hy := hget k (by omega)
        have hke : k < elems.length := by omega
        rw [List.getElem?_eq_getElem hke] at hy
        cases hcs : W.cells? 0 (a.add (k * (Rep.slice R8).sz)) (Rep.slice R8).sz with
        | none => rw [hcs] at hy; cases hy
        | some us =>
          rw [hcs] at hy
          obtain ⟨d, hd, hd2⟩ := bytes_sized hu hb O hy (hwe _ (List.getElem_mem _))
          obtain ⟨f1, f2⟩ := cells_row hcs h0
          have hcl : cs.length = k * (Rep.slice R8).sz := by rw [e2.1, e1]
          rw [add_block, add_off] at f2
          have f3 : a.spot = none := by
            by_cases hk0 : k = 0
            · subst hk0
              rw [Nat.zero_mul] at f1
              exact f1
            · exact e3 (by omega)
          refine ⟨cs ++ us, l ++ [d], by simp [e1], Rep.rows.append e2 (Rep.rows.single hd), fun _ => f3, e4.join ?_, ?_⟩
          · rw [hcl]; exact f2
          · intro z hz
            rcases List.mem_append.1 hz with hz | hz
            · exact e5 z hz
            · rw [List.mem_singleton.1 hz]; exact hd2
    obtain ⟨cs, l, e1, e2, e3, e4, e5⟩ := key len (Nat.le_refl _)
    refine ⟨l, ⟨some a, len, cap, rfl, e1, hlc, by have hm : maxLen = 9223372036854775807 := rfl; omega, ?_⟩, e5⟩
    by_cases hl : len = 0
    · exact .inl hl
    · refine .inr ⟨a.block, a.off, cs, ?_, e4, e2⟩
      have := e3 (by omega)
      cases a; simp at this; subst this; rfl
theorem arg_each {ts : List TypeId} {ds : List (DataW H)} (hz : (DataW.weightsEach P ts ds).all (· ≤ reachBytes) = true) {j : Nat} {t u e : TypeId} {r : Reach} {base : Nat} {v : Value} {d : DataW H} {ps : List MemPlace}
    (htj : ts[j]? = some t) (hdj : ds[j]? = some d) (ht : P.underlying t = some (.slice u)) (hu : P.underlying u = some (.slice e)) (hsz : P.cellsOf u = 1) (hb : P.bytesOf e = 1) (O : Opens P u (Rep.slice R8)) (hval : Value.okWide P W r base t v) (h : DataW.Trod enc P W 0 (fun _ => true) true t v d ps) :
    ∃ y a m c, v = .slice a m c ∧ SlP (Rep.slice R8) a m c y (Frag.of W) ∧ ∀ z ∈ y, z.length ≤ reachBytes := by
  obtain ⟨n, hn⟩ := h
  have hall := List.all_eq_true.1 hz
  obtain ⟨y, hy, hR⟩ := opens_each ht hu hsz hb O (R := reachBytes) hn (fun k hk => by
    have := hall k (DataW.weights_mem_each htj hdj k hk)
    simpa using this)
  have hv : v.cells = #[v] := by
    cases v with
    | agg cs =>
      exfalso
      unfold Value.okWide at hval
      split at hval
      · rename_i fs hf; rw [ht] at hf; cases hf
      · rename_i m e' hf; rw [ht] at hf; cases hf
      · unfold Cell.okWide at hval
        split at hval <;> try (rename_i h1; cases h1)
        unfold Cell.ok at hval
        split at hval <;> simp_all
    | _ => rfl
  rw [hv] at hy
  obtain ⟨a, m, c, e1, h2⟩ := hy
  have e1' : v = .slice a m c := by simpa using e1
  exact ⟨y, a, m, c, e1', h2, hR⟩
end
end Go.Wk
