/- Disks in plain Lean: bytes laid over the sectors, and read again. -/
import Derived.Test.YteghgfgkkpfcaaaDPlain5
namespace Go.Dsk
open Go.Wk
/-- The bytes, and zeros behind them. -/
def pad (B : List UInt8) : List UInt8 := B ++ List.replicate 1024 0
def chunk (B : List UInt8) (k : Nat) : Sec := ((pad B).drop (64 * k)).take 64
theorem pad_length (B : List UInt8) : (pad B).length = B.length + 1024 := by
  rw [pad, List.length_append, List.length_replicate]
theorem chunk_length {B : List UInt8} {k : Nat} (hk : k < 16) : (chunk B k).length = 64 := by
  rw [chunk, List.length_take, List.length_drop, pad_length]; omega
/-- What the copy makes. -/
theorem chunk_copy {B : List UInt8} {k hi d : Nat} (hk : 64 * k < B.length) (hhi : hi = min (64 * k + 64) B.length) (hd : d = min (hi - 64 * k) 64) (hk16 : k < 16) :
    ((B.drop (64 * k)).take (hi - 64 * k)).take d ++ (List.replicate 64 (0 : UInt8)).drop d = chunk B k := by
  apply List.ext_getElem?
  intro i
  have h1 : (B.drop (64 * k)).length = B.length - 64 * k := by simp
  by_cases hi64 : i < 64
  · rw [chunk, List.getElem?_take, if_pos hi64, List.getElem?_drop, pad]
    by_cases hid : i < d
    · rw [List.getElem?_append_left (by simp only [List.length_take, h1]; omega), List.getElem?_take, if_pos hid, List.getElem?_take, if_pos (by omega), List.getElem?_drop, List.getElem?_append_left (by omega)]
    · rw [List.getElem?_append_right (by simp only [List.length_take, h1]; omega), List.getElem?_append_right (by omega)]
      simp only [List.length_take, h1, List.drop_replicate, List.getElem?_replicate]
      rw [if_pos (by omega), if_pos (by omega)]
  · rw [List.getElem?_eq_none (by simp only [List.length_append, List.length_take, List.length_drop, List.length_replicate, h1]; omega), List.getElem?_eq_none (by rw [chunk_length hk16]; omega)]
theorem chunk_zero {B : List UInt8} {k : Nat} (hk : B.length ≤ 64 * k) (hk16 : k < 16) : chunk B k = List.replicate 64 0 := by
  apply List.ext_getElem?
  intro i
  by_cases hi : i < 64
  · rw [chunk, List.getElem?_take, if_pos hi, List.getElem?_drop, pad, List.getElem?_append_right (by omega), List.getElem?_replicate, List.getElem?_replicate, if_pos (by omega), if_pos hi]
  · rw [List.getElem?_eq_none (by rw [chunk_length hk16]; omega), List.getElem?_eq_none (by simp; omega)]
theorem pad_step {B : List UInt8} {j : Nat} : (pad B).take (64 * j) ++ chunk B j = (pad B).take (64 * (j + 1)) := by
  rw [chunk, show 64 * (j + 1) = 64 * j + 64 from by omega, List.take_add]
theorem pad_all {B : List UInt8} (h : B.length ≤ 512) : ((pad B).take (64 * 8)).take B.length = B := by
  rw [List.take_take, Nat.min_eq_left (by omega), pad]; exact List.take_left' rfl
/-- After i sectors were written. -/
structure Wr1 (B : List UInt8) (i : Nat) (D : Dk) : Prop where
  ok : D.ok (i + 1)
  calm : D.calm
  len : D.S.length = 16
  val : ∀ k, k < 16 → D.S[k]? = some (if k < i then [List.replicate 64 0, chunk B k] else [List.replicate 64 0])
theorem Wr1.start (B : List UInt8) : Wr1 B 0 (fresh 16) := ⟨fresh_ok (by decide) (by decide), fresh_calm _, List.length_replicate, fun k hk => by
  show (List.replicate 16 [List.replicate 64 (0 : UInt8)])[k]? = _
  rw [List.getElem?_replicate, if_pos hk, if_neg (by omega)]⟩
theorem Wr1.step {B : List UInt8} {i : Nat} {D : Dk} (h : Wr1 B i D) (hi : i < 16) : Wr1 B (i + 1) (D.add i (chunk B i)) := by
  have hl := h.len
  refine ⟨h.ok.add (by omega) (by omega) (chunk_length hi), h.calm.add _ _, by rw [Dk.add_len]; exact hl, fun k hk => ?_⟩
  have hat : D.at (i : Int) = [List.replicate 64 0] := by
    have := h.val i hi
    rw [if_neg (by omega)] at this
    unfold Dk.at; rw [Int.toNat_natCast, List.getD_eq_getElem?_getD, this]; rfl
  simp only [Dk.add, Int.toNat_natCast, hat]
  rw [List.getElem?_set]
  by_cases e : i = k
  · subst e; rw [if_pos rfl, if_pos (by omega), if_pos (by omega)]; rfl
  · rw [if_neg e, h.val k hk]
    by_cases h2 : k < i
    · rw [if_pos h2, if_pos (by omega)]
    · rw [if_neg h2, if_neg (by omega)]
/-- After they were flushed: the first eight sectors. -/
structure Wr2 (B : List UInt8) (i : Nat) (D : Dk) : Prop where
  ok : D.ok (i + 1)
  calm : D.calm
  len : D.S.length = 16
  val : ∀ k, k < 8 → D.S[k]? = some [chunk B k]
theorem Wr1.flush {B : List UInt8} {i : Nat} {D : Dk} (h : Wr1 B i D) (hi : B.length ≤ 64 * i) : Wr2 B 0 D.flush := by
  rw [h.calm.flush]
  refine ⟨h.ok.flushed, h.calm.flushed, by rw [flushed_len]; exact h.len, fun k hk => ?_⟩
  simp only [Dk.flushed, List.getElem?_map, h.val k (by omega), Option.map_some]
  by_cases hki : k < i
  · rw [if_pos hki]; rfl
  · rw [if_neg hki, chunk_zero (by omega) (by omega)]; rfl
theorem Wr2.step {B : List UInt8} {i : Nat} {D : Dk} {k : Nat} {s : Sec} (h : Wr2 B i D) (hk : 8 ≤ k) (hk2 : k < 16) (hs : s.length = 64) : Wr2 B (i + 1) (D.add k s) := by
  have hl := h.len
  refine ⟨h.ok.add (by omega) (by omega) hs, h.calm.add _ _, by rw [Dk.add_len]; exact hl, fun j hj => ?_⟩
  simp only [Dk.add, Int.toNat_natCast]
  rw [List.getElem?_set_ne (by omega)]
  exact h.val j hj
theorem Wr2.restart {B : List UInt8} {i : Nat} {D : Dk} (h : Wr2 B i D) (ts : List Torn) : Wr2 B 0 ((D.blow 0).restart ts) := by
  have hS := blow_S D 0
  refine ⟨(h.ok.blow (by omega)).restart (by omega) ts, Dk.calm.restart _ _, by rw [restart_len, hS]; exact h.len, fun k hk => ?_⟩
  rw [restart_get (show (D.blow 0).S[k]? = some [chunk B k] from by rw [hS]; exact h.val k hk), left_one]
theorem Wr2.read {B : List UInt8} {i : Nat} {D : Dk} (h : Wr2 B i D) {k : Nat} (hk : k < 8) : D.read k = (chunk B k, 0) := h.calm.read (h.val k hk)
end Go.Dsk
