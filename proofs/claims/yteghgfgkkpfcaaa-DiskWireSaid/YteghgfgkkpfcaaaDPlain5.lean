/- Disks in plain Lean: what is found of a sector after a restart. -/
import Derived.Test.YteghgfgkkpfcaaaDPlain4
namespace Go.Dsk
open Go.Wk
/-- b begins as f and ends as t. -/
def Mixed (b f t : Sec) : Prop := ∃ n, b = f.take n ++ t.drop n
theorem Mixed.all {f t : Sec} : Mixed f f t := ⟨f.length + t.length, by rw [List.take_of_length_le (by omega), List.drop_of_length_le (by omega), List.append_nil]⟩
/-- Where b and f part, b ends as t. -/
theorem Mixed.get {b f t : Sec} (hf : f.length = 64) (ht : t.length = 64) (h : Mixed b f t) {n j : Nat} (hn : n < 64) (hj : n ≤ j) (hj2 : j < 64) (hne : b[n]? ≠ f[n]?) : b[j]? = t[j]? := by
  obtain ⟨q, rfl⟩ := h
  have hq : q ≤ n := Nat.le_of_not_lt fun hlt => hne (by rw [List.getElem?_append_left (by rw [List.length_take]; omega), List.getElem?_take, if_pos hlt])
  rw [List.getElem?_append_right (by rw [List.length_take]; omega), List.length_take, List.getElem?_drop]
  congr 1; omega
theorem left_found {l : List Sec} {o : Option Torn} (hl : l ≠ []) : left l o = hd l ∨ ∃ w, 1 ≤ w ∧ w < l.length ∧ Mixed (left l o) (nth l w) (nth l (w - 1)) := by
  have hpos := List.length_pos_iff.2 hl
  cases o with
  | none => exact .inl rfl
  | some t =>
    simp only [left]
    by_cases h1 : 1 < l.length
    · rw [if_pos h1]
      obtain ⟨h2, h3⟩ := limit_bd (n := t.w) (most := (l.length : Int) - 1) (by omega)
      unfold surv
      simp only
      generalize hi : (limit t.w ((l.length : Int) - 1)).toNat = i
      have hil : i < l.length := by omega
      by_cases h4 : i + 1 < l.length
      · rw [if_pos h4]
        exact .inr ⟨i + 1, by omega, h4, ⟨(limit t.b 64).toNat, by rw [Nat.add_sub_cancel]⟩⟩
      · rw [if_neg h4]
        exact .inr ⟨i, by omega, hil, Mixed.all⟩
    · rw [if_neg h1]; exact .inl rfl
/-- What has been found when the writes below w were looked at. -/
structure Fnd (b : Sec) (l : List Sec) (w : Nat) (fd : Bool) : Prop where
  zero : b = hd l → fd = true
  some_ : ∀ v, 1 ≤ v → v < w → Mixed b (nth l v) (nth l (v - 1)) → fd = true
theorem Fnd.start (b : Sec) (l : List Sec) : Fnd b l 1 (decide (b = hd l)) := ⟨fun h => by simpa using h, fun v h1 h2 => by omega⟩
theorem Fnd.keep {b : Sec} {l : List Sec} {w : Nat} (h : Fnd b l w true) : Fnd b l (w + 1) true := ⟨fun _ => rfl, fun _ _ _ _ => rfl⟩
theorem Fnd.look {b : Sec} {l : List Sec} {w : Nat} {p : Bool} (h : Fnd b l w false) (hp : Mixed b (nth l w) (nth l (w - 1)) → p = true) : Fnd b l (w + 1) p := by
  refine ⟨fun e => absurd (h.zero e) (by simp), fun v h1 h2 hm => ?_⟩
  by_cases e : v = w
  · subst e; exact hp hm
  · exact absurd (h.some_ v h1 (by omega) hm) (by simp)
theorem Fnd.done {l : List Sec} {o : Option Torn} {w : Nat} {fd : Bool} (h : Fnd (left l o) l w fd) (hl : l ≠ []) (hw : l.length ≤ w) : fd = true := by
  rcases left_found (o := o) hl with h1 | ⟨v, h1, h2, h3⟩
  · exact h.zero h1
  · exact h.some_ v h1 (by omega) h3
/-- The lists of a track are well made. -/
def Good (T : List (List Sec)) (m : Nat) : Prop := ∀ l ∈ T, l ≠ [] ∧ l.length ≤ m ∧ ∀ s ∈ l, s.length = 64
/-- After an act: what the track has (T), what the disk has (its image under g). -/
structure Act1 (D2 : Dk) (T : List (List Sec)) (g : Nat → List Sec → List Sec) (i : Nat) (kk : Int) : Prop where
  ok : D2.ok (i + 2)
  calm : D2.calm
  img : D2.S = T.mapIdx g
  good : Good T (i + 2)
  how : (kk ≠ 3 ∧ ∀ k l, g k l = l) ∨ (kk = 3 ∧ ∃ ts : List Torn, ∀ k l, g k l = [left l (firstOf ts k)])
theorem Act1.same {D : Dk} {i : Nat} {kk : Int} (h : D.ok (i + 2)) (hc : D.calm) (hk : kk ≠ 3) : Act1 D D.S (fun _ l => l) i kk :=
  ⟨h, hc, by rw [mapIdx_map, List.map_id''] ; intro x; rfl, h.all, .inl ⟨hk, fun _ _ => rfl⟩⟩
theorem Act1.again {D : Dk} {i : Nat} {kk : Int} {ts : List Torn} (h : D.ok (i + 1)) (hk : kk = 3) : Act1 (D.restart ts) D.S (fun k l => [left l (firstOf ts k)]) i kk :=
  ⟨(h.restart (by omega) ts).mono (by omega), Dk.calm.restart D ts, (restart_mapIdx D ts).symm, (h.mono (by omega)).all, .inr ⟨hk, ts, fun _ _ => rfl⟩⟩
theorem Act1.get {D2 : Dk} {T : List (List Sec)} {g : Nat → List Sec → List Sec} {i : Nat} {kk : Int} (h : Act1 D2 T g i kk) {k : Nat} {l : List Sec} (hk : T[k]? = some l) : D2.read k = (lst (g k l), 0) :=
  h.calm.read (by rw [h.img, List.getElem?_mapIdx, hk]; rfl)
theorem Act1.len {D2 : Dk} {T : List (List Sec)} {g : Nat → List Sec → List Sec} {i : Nat} {kk : Int} (h : Act1 D2 T g i kk) : D2.S.length = T.length := by rw [h.img]; simp
theorem lst_drop {l : List Sec} (h : l ≠ []) : l.drop (l.length - 1) = [lst l] := by
  have hpos := List.length_pos_iff.2 h
  have hlt : l.length - 1 < l.length := by omega
  rw [List.drop_eq_getElem_cons hlt, List.drop_of_length_le (by omega)]
  have := lst_get h
  rw [List.getElem?_eq_getElem hlt] at this
  rw [Option.some.inj this]
end Go.Dsk
