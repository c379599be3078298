/- How great arguments are: what the form's own reach and a bound on their bulk say of slices. -/
import Derived.Test.YtbljfilkdhgcnaaDoorZeros
import Derived.Test.YtbljfilkdhgcnaaDoorTop
import Derived.SizedLaws
namespace Go.Wk
open Go.WideShapes

section
variable {P : Program} {H : Type} {enc : TypeId × Value → H} {W : World}

theorem slice_reach {ts : List TypeId} {ds : List (DataW H)} (h : (DataW.weightsEach P ts ds).all (· ≤ reachBytes) = true) {j : Nat} {t e : TypeId} {d : DataW H} {ps : List MemPlace} {a : Option Addr} {m c : Nat}
    (ht : ts[j]? = some t) (hd : ds[j]? = some d) (hu : P.underlying t = some (.slice e)) (hT : DataW.Trod enc P W 0 (fun _ => true) true t (.slice a m c) d ps) : m * P.bytesOf e ≤ reachBytes := by
  obtain ⟨n, hn⟩ := hT
  rcases DataW.trod_slice hu hn with ⟨h1, _⟩ | ⟨a', len, cap, elems, rest, n', _, h1, h2, _, _, _, h3, _⟩
  · have : m = 0 := by
      have h1' : [Value.slice a m c] = [.slice none 0 0] := h1
      simp only [List.cons.injEq, Value.slice.injEq, and_true] at h1'
      exact h1'.2.1
    subst this; omega
  · have hm : m = len := by
      have h1' : [Value.slice a m c] = [.slice (some a') len cap] := h1
      simp only [List.cons.injEq, Value.slice.injEq, and_true] at h1'
      exact h1'.2.1
    have h2' : d = .slice (elems.map (·.1)) (rest.map (·.1)) := (Prod.mk.inj h2).1
    have := sized_slice h ht (by rw [hd, h2']) hu
    rw [List.length_map, h3, ← hm] at this
    exact Nat.le_trans (Nat.mul_le_mul_right _ (Nat.le_add_right _ _)) this

theorem opens_sum {α : Type} {T : Rep α} {sz : α → Nat} {bk : DataW H → Nat} {t e : TypeId} (ht : P.underlying t = some (.slice e)) (hsz : P.cellsOf e = T.sz) (h0 : 0 < T.sz) (hb : ∀ E R : List (DataW H), (E.map bk).sum ≤ bk (.slice E R))
    (O : ∀ {n : Nat} {cs : List Value} {x : DataW H × List MemPlace}, DataW.trod enc P W 0 (fun _ => true) true n e cs = some x → ∃ y, T.rep (Frag.of W) cs y ∧ sz y ≤ bk x.1)
    {n : Nat} {cs : List Value} {x : DataW H × List MemPlace} (h : DataW.trod enc P W 0 (fun _ => true) true n t cs = some x) : ∃ y, (Rep.slice T).rep (Frag.of W) cs y ∧ (y.map sz).sum ≤ bk x.1 := by
  rcases DataW.trod_slice ht h with ⟨rfl, rfl⟩ | ⟨a, len, cap, elems, rest, n', _, rfl, rfl, _, hlc, hcm, hel, hget, _, _⟩
  · exact ⟨[], ⟨none, 0, 0, rfl, rfl, Nat.le_refl _, by omega, .inl rfl⟩, Nat.zero_le _⟩
  · rw [hsz] at hget
    have key : ∀ k, k ≤ len → ∃ (cs : List Value) (l : List α), l.length = k ∧ T.rows (Frag.of W) cs l ∧ (0 < k → a.spot = none) ∧ Row (Frag.of W) a.block a.off cs ∧ (l.map sz).sum ≤ (((elems.map (·.1)).take k).map bk).sum := by
      intro k
      induction k with
      | zero => exact fun _ => ⟨[], [], rfl, Rep.rows.nil T _, fun h => absurd h (by omega), fun i u hu => by simp at hu, Nat.zero_le _⟩
      | succ k ih =>
        intro hk
        obtain ⟨cs, l, e1, e2, e3, e4, e5⟩ := ih (by omega)
        have hy := hget k (by omega)
        have hke : k < elems.length := by omega
        rw [List.getElem?_eq_getElem hke] at hy
        cases hcs : W.cells? 0 (a.add (k * T.sz)) T.sz with
        | none => rw [hcs] at hy; cases hy
        | some us =>
          rw [hcs] at hy
          obtain ⟨d, hd, hd2⟩ := O hy
          obtain ⟨f1, f2⟩ := cells_row hcs h0
          have hcl : cs.length = k * T.sz := by rw [e2.1, e1]
          rw [add_block, add_off] at f2
          have f3 : a.spot = none := by
            by_cases hk0 : k = 0
            · subst hk0
              rw [Nat.zero_mul] at f1
              exact f1
            · exact e3 (by omega)
          refine ⟨cs ++ us, l ++ [d], by simp [e1], Rep.rows.append e2 (Rep.rows.single hd), fun _ => f3, e4.join ?_, ?_⟩
          · rw [hcl]; exact f2
          · rw [List.take_add_one, List.getElem?_map, List.getElem?_eq_getElem hke]
            simp only [Option.map_some, Option.toList_some, List.map_append, List.map_cons, List.map_nil, List.sum_append, List.sum_cons, List.sum_nil]
            omega
    obtain ⟨cs, l, e1, e2, e3, e4, e5⟩ := key len (Nat.le_refl _)
    refine ⟨l, ⟨some a, len, cap, rfl, e1, hlc, by have hm : maxLen = 9223372036854775807 := rfl; omega, ?_⟩, ?_⟩
    · by_cases hl : len = 0
      · exact .inl hl
      · refine .inr ⟨a.block, a.off, cs, ?_, e4, e2⟩
        have := e3 (by omega)
        cases a; simp at this; subst this; rfl
    · refine Nat.le_trans e5 ?_
      rw [List.take_of_length_le (by rw [List.length_map]; omega)]
      exact hb _ _
end
end Go.Wk
namespace Go.Wk
section
variable {P : Program} {t e : TypeId}
/-- An array of bytes. -/
theorem Opens.arr8 {n : Nat} (ht : P.underlying t = some (.array n e)) (hc : P.cellsOf t = n) (O : Opens P e R8) : Opens P t (RArr8 n) := ⟨hc, fun {H enc W k cs x} h => by
  obtain ⟨xs, m, _, _, hl, hn, hg⟩ := DataW.trod_array ht h
  rw [hc] at hl
  rw [O.sz] at hg
  have key : ∀ j, j ≤ n → ∃ l : List UInt8, l.length = j ∧ cs.take j = l.map v8 := by
    intro j
    induction j with
    | zero => exact fun _ => ⟨[], rfl, rfl⟩
    | succ j ih =>
      intro hj
      obtain ⟨l, h1, h2⟩ := ih (by omega)
      have hy := hg j (by omega)
      rw [List.getElem?_eq_getElem (by omega)] at hy
      obtain ⟨y, h3, _⟩ := O.op hy
      have h4 : (cs.drop (j * 1)).take 1 = [v8 y] := h3
      rw [Nat.mul_one] at h4
      refine ⟨l ++ [y], by simp [h1], ?_⟩
      rw [List.take_add, h2, h4]; simp
  obtain ⟨l, h1, h2⟩ := key n (Nat.le_refl _)
  refine ⟨l, ?_, h1⟩
  show cs = l.map v8
  rw [← h2, List.take_of_length_le (by omega)]⟩
theorem Opens.argA {α : Type} {T : Rep α} {r : Reach} {base : Nat} {H : Type} {enc : TypeId × Value → H} {W : World} {v : Value} {d : DataW H} {ps : List MemPlace} {m : Nat} (O : Opens P t T) (hs : P.underlying t = some (.array m e))
    (hval : Value.okWide P W r base t v) (h : DataW.Trod enc P W 0 (fun _ => true) true t v d ps) : ∃ us y, v = .agg us.toArray ∧ T.rep (Frag.of W) us y := by
  obtain ⟨n, hn⟩ := h
  obtain ⟨y, hy⟩ := O.op hn
  unfold Value.okWide at hval
  rw [hs] at hval
  obtain ⟨cs, rfl, _⟩ := hval
  exact ⟨cs.toList, y, rfl, hy⟩
end
end Go.Wk
