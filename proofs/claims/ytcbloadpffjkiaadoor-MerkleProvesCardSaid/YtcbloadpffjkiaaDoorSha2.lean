/- States and their bytes, in plain Lean. -/
import Derived.Test.YtcbloadpffjkiaaDoorSha
namespace Go.Sha
open Go.Wk
section
variable {H H' : List UInt32} {s t s' t' : Value} {L : List Assn}
theorem Blk.eqc {b E : Nat} {cs cs' : List Value} (h : cs = cs') : Ent (Blk b E cs :: L) (Blk b E cs' :: L) := by subst h; exact Ent.refl _
theorem Buf.eqc {a : Option Addr} {m c e : Nat} {l l' : List UInt8} (h : l = l') : Ent (Buf R8 e a m c l :: L) (Buf R8 e a m c l' :: L) := by subst h; exact Ent.refl _
/-- The cells of a state. -/
def dg (H : List UInt32) (s t : Value) : List Value := H.map v32 ++ [s, t]
theorem dg_len (hH : H.length = 8) : (dg H s t).length = 10 := by simp [dg, hH]
theorem dg_8 (hH : H.length = 8) : (dg H s t)[8]? = some s := by
  rw [dg, List.getElem?_append_right (by simp [hH])]; simp [hH]
theorem dg_9 (hH : H.length = 8) : (dg H s t)[9]? = some t := by
  rw [dg, List.getElem?_append_right (by simp [hH])]; simp [hH]
theorem dg_set8 (hH : H.length = 8) : (dg H s t).set 8 s' = dg H s' t := by
  rw [dg, dg, List.set_append_right _ _ (by simp [hH])]; simp [hH]
theorem dg_set9 (hH : H.length = 8) : (dg H s t).set 9 t' = dg H s t' := by
  rw [dg, dg, List.set_append_right _ _ (by simp [hH])]; simp [hH]
theorem dg_H (hH : H.length = 8) : ((dg H s t).drop 0).take 8 = H.map v32 := by
  rw [dg, List.drop_zero]; exact List.take_left' (by simp [hH])
theorem dg_setH (hH : H.length = 8) (hH' : H'.length = 8) : setAt (dg H s t) 0 (H'.map v32) = dg H' s t := by
  have := setAt_mid (H'.map v32) [] (H.map v32) [s, t] (by simp [hH, hH'])
  simpa [dg] using this
theorem dg_all (hH : H.length = 8) : ((dg H s t).drop 0).take 10 = dg H s t := by
  rw [List.drop_zero]; exact List.take_of_length_le (by rw [dg_len hH]; omega)
theorem dg_one (hs : s.oneCell' = true) (ht : t.oneCell' = true) : ∀ u ∈ dg H s t, u.oneCell' = true := fun u hu => by
  rcases List.mem_append.1 hu with hu | hu
  · obtain ⟨x, _, rfl⟩ := List.mem_map.1 hu; rfl
  · simp only [List.mem_cons, List.not_mem_nil, or_false] at hu
    rcases hu with rfl | rfl <;> assumption
end
/- the bytes of a hash value -/
theorem out_length {h : List UInt32} (hh : h.length = 8) : (out h).length = 32 := by
  obtain ⟨a, b, c, d, e, f, g, i, rfl⟩ := eight hh; rfl
theorem out_get {h : List UInt32} (hh : h.length = 8) {j : Nat} (hj : j < 32) : (out h)[j]? = some ((h.getD (j / 4) 0 >>> UInt32.ofNat (24 - j % 4 * 8)).toUInt8) := by
  obtain ⟨a, b, c, d, e, f, g, i, rfl⟩ := eight hh
  match j, hj with
  | 0, _ => rfl
  | 1, _ => rfl
  | 2, _ => rfl
  | 3, _ => rfl
  | 4, _ => rfl
  | 5, _ => rfl
  | 6, _ => rfl
  | 7, _ => rfl
  | 8, _ => rfl
  | 9, _ => rfl
  | 10, _ => rfl
  | 11, _ => rfl
  | 12, _ => rfl
  | 13, _ => rfl
  | 14, _ => rfl
  | 15, _ => rfl
  | 16, _ => rfl
  | 17, _ => rfl
  | 18, _ => rfl
  | 19, _ => rfl
  | 20, _ => rfl
  | 21, _ => rfl
  | 22, _ => rfl
  | 23, _ => rfl
  | 24, _ => rfl
  | 25, _ => rfl
  | 26, _ => rfl
  | 27, _ => rfl
  | 28, _ => rfl
  | 29, _ => rfl
  | 30, _ => rfl
  | 31, _ => rfl
  | j + 32, hj => exact absurd hj (by omega)
theorem out_get2 {h : List UInt32} (hh : h.length = 8) {i k : Nat} (hi : i < 8) (hk : k < 4) : (out h)[4 * i + k]? = some ((h.getD i 0 >>> UInt32.ofNat (24 - 8 * k)).toUInt8) := by
  have h1 := out_get hh (j := 4 * i + k) (by omega)
  rw [show (4 * i + k) / 4 = i from by omega, show 24 - (4 * i + k) % 4 * 8 = 24 - 8 * k from by omega] at h1
  exact h1
/-- The array after j of these bytes. -/
def oz (O : List UInt8) (j : Nat) : List UInt8 := O.take j ++ List.replicate (32 - j) 0
theorem oz_length {O : List UInt8} (hO : O.length = 32) {j : Nat} (hj : j ≤ 32) : (oz O j).length = 32 := by
  rw [oz, List.length_append, List.length_take, List.length_replicate]; omega
theorem oz_step {O : List UInt8} {x : UInt8} {j : Nat} (hO : O.length = 32) (hj : j < 32) (hx : O[j]? = some x) : (oz O j).set j x = oz O (j + 1) := by
  rw [oz, oz, List.set_append_right _ _ (by rw [List.length_take]; omega), List.length_take, Nat.min_eq_left (by omega), Nat.sub_self, List.take_add_one, hx, show 32 - j = (32 - (j + 1)) + 1 from by omega, List.replicate_succ]
  simp
theorem oz_zero (O : List UInt8) : List.replicate 32 (Value.int .u8 0) = (oz O 0).map v8 := by
  rw [oz, List.take_zero, List.nil_append, List.map_replicate]; rfl
theorem oz_all {O : List UInt8} (hO : O.length = 32) : oz O 32 = O := by
  rw [oz, List.take_of_length_le (by omega)]; simp
theorem take8 {O : List UInt8} {m : Nat} (hO : O.length = m) : ((O.map v8).drop 0).take m = O.map v8 := by
  rw [List.drop_zero]; exact List.take_of_length_le (by rw [List.length_map]; omega)
theorem one8 (l : List UInt8) : ∀ u ∈ l.map v8, u.oneCell' = true := fun u hu => by
  obtain ⟨x, _, rfl⟩ := List.mem_map.1 hu; rfl
theorem sum_length (l : List UInt8) : (sum l).length = 32 := out_length (feed_length _ _ first_length)
/-- The hash value, of a state. -/
theorem close_eq (X : List UInt8) : out (feed (feed first X) (tail X ++ ends X.length)) = sum X := by rw [feed_app]; rfl
/-- The padding's bytes, one after the other: after q of the last eight. -/
def e8 (n : UInt64) (q : Nat) : List UInt8 := (len8 n).take q
theorem e8_step (n : UInt64) {q : Nat} (hq : q < 8) : e8 n (q + 1) = e8 n q ++ [(n >>> UInt64.ofNat (56 - 8 * q)).toUInt8] := by
  match q, hq with
  | 0, _ => rfl
  | 1, _ => rfl
  | 2, _ => rfl
  | 3, _ => rfl
  | 4, _ => rfl
  | 5, _ => rfl
  | 6, _ => rfl
  | 7, _ => rfl
theorem e8_all (n : UInt64) : e8 n 8 = len8 n := rfl
end Go.Sha
