/- Hexadecimal digits, in plain Lean. -/
import Derived.Test.YtbljfilkdhgcnaaDoorShaEx
import Derived.Test.YtbljfilkdhgcnaaDoorSha2
namespace Go.Sha
open Go.Wk
def digs : List UInt8 := [48, 49, 50, 51, 52, 53, 54, 55, 56, 57, 97, 98, 99, 100, 101, 102]
theorem dig_get (x : UInt8) (h : x.toNat < 16) : digs[x.toNat]? = some (hexd x) := by
  have e : x = UInt8.ofNat x.toNat := by simp
  have key : ∀ n, n < 16 → digs[n]? = some (hexd (UInt8.ofNat n)) := by decide +kernel
  have := key x.toNat h
  rwa [← e] at this
def digitV (c : UInt8) : UInt8 := if 48 ≤ c ∧ c ≤ 57 then c - 48 else if 97 ≤ c ∧ c ≤ 102 then c - 87 else 16
theorem dig_hit {i : Nat} {c : UInt8} (hi : i < 16) (h : digs[i]? = some c) : ((digitV c).toNat : Int) = i := by
  have key : ∀ n, n < 16 → digs[n]?.map (fun c => (digitV c).toNat) = some n := by decide +kernel
  have := key i hi
  rw [h] at this
  simp only [Option.map_some, Option.some.injEq] at this
  omega
theorem dig_miss {c : UInt8} (h : ∀ j, j < 16 → digs[j]? ≠ some c) : digitV c = 16 := by
  have key : ∀ n, n < 256 → (digitV (UInt8.ofNat n) = 16 ∨ ((List.range 16).any fun j => digs[j]? == some (UInt8.ofNat n)) = true) := by decide +kernel
  have e : c = UInt8.ofNat c.toNat := by simp
  rcases key c.toNat c.toNat_lt with h1 | h1
  · rwa [← e] at h1
  · rw [← e] at h1
    obtain ⟨j, hj, h2⟩ := List.any_eq_true.1 h1
    exact absurd (by simpa using h2) (h j (by simpa using hj))
theorem hex_step {l : List UInt8} {i : Nat} (h : i < l.length) : hex (l.take (i + 1)) = hex (l.take i) ++ [hexd (l[i] / 16), hexd (l[i] % 16)] := by
  have e : l.take (i + 1) = l.take i ++ [l[i]] := by
    rw [List.take_add_one, List.getElem?_eq_getElem h]; rfl
  rw [e, hex, List.flatMap_append]; rfl
theorem hex_length (l : List UInt8) : (hex l).length = 2 * l.length := by
  induction l with
  | nil => rfl
  | cons x l ih => rw [hex, List.flatMap_cons, List.length_append, ← hex, ih]; simp; omega
theorem B.incU8 {P : Program} {i : Nat} (h : i < 255) : BinRun P .add (.int .u8 (i : Int)) (.int .u8 1) (.int .u8 ((i + 1 : Nat) : Int)) := by
  have h1 := B.add (P := P) (k := .u8) (x := (i : Int)) (y := 1)
  rwa [show IntKind.u8.wrap ((i : Int) + 1) = ((i + 1 : Nat) : Int) from by rw [IntKind.wrap_u8]; omega] at h1
/- Parse. -/
def pv (s : List UInt8) (k : Nat) : UInt8 := 16 * digitV (s.getD (2 * k) 0) + digitV (s.getD (2 * k + 1) 0)
def pg (s : List UInt8) (k : Nat) : Bool := decide ((digitV (s.getD (2 * k) 0)).toNat ≤ 15 ∧ (digitV (s.getD (2 * k + 1) 0)).toNat ≤ 15)
def pl (s : List UInt8) (i : Nat) : List UInt8 := (List.range i).map (pv s)
def pz (s : List UInt8) (i : Nat) : List UInt8 := pl s i ++ List.replicate (32 - i) 0
def parseV (s : List UInt8) : List UInt8 × Int := if s.length = 64 ∧ (List.range 32).all (pg s) = true then (pl s 32, 0) else (List.replicate 32 0, 7)
theorem pl_length (s : List UInt8) (i : Nat) : (pl s i).length = i := by simp [pl]
theorem pz_length {s : List UInt8} {i : Nat} (h : i ≤ 32) : (pz s i).length = 32 := by
  rw [pz, List.length_append, pl_length, List.length_replicate]; omega
theorem pz_step {s : List UInt8} {i : Nat} (h : i < 32) : (pz s i).set i (pv s i) = pz s (i + 1) := by
  rw [pz, pz, List.set_append_right _ _ (by rw [pl_length]; omega), pl_length, Nat.sub_self, show 32 - i = (32 - (i + 1)) + 1 from by omega, List.replicate_succ, pl, pl, List.range_succ, List.map_append]
  simp
theorem pz_zero (s : List UInt8) : List.replicate 32 (Value.int .u8 0) = (pz s 0).map v8 := by
  rw [pz, pl, List.range_zero, List.map_nil, List.nil_append, List.map_replicate]; rfl
theorem pz_all (s : List UInt8) : pz s 32 = pl s 32 := by simp [pz]
theorem z32 : List.replicate 32 (Value.int .u8 0) = (List.replicate 32 (0 : UInt8)).map v8 := by rw [List.map_replicate]; rfl
theorem parse_len {s : List UInt8} (h : s.length ≠ 64) : parseV s = (List.replicate 32 0, 7) := if_neg fun h2 => h h2.1
theorem parse_bad {s : List UInt8} {k : Nat} (hk : k < 32) (h : pg s k ≠ true) : parseV s = (List.replicate 32 0, 7) := if_neg fun h2 => h (List.all_eq_true.1 h2.2 k (List.mem_range.2 hk))
theorem parse_good {s : List UInt8} (h1 : s.length = 64) (h2 : ∀ k, k < 32 → pg s k = true) : parseV s = (pl s 32, 0) := if_pos ⟨h1, List.all_eq_true.2 fun k hk => h2 k (List.mem_range.1 hk)⟩
theorem parse_length (s : List UInt8) : (parseV s).1.length = 32 := by
  unfold parseV; split
  · exact pl_length s 32
  · exact List.length_replicate
theorem pg_iff {s : List UInt8} {k : Nat} : pg s k = true ↔ (digitV (s.getD (2 * k) 0)).toNat ≤ 15 ∧ (digitV (s.getD (2 * k + 1) 0)).toNat ≤ 15 := by simp [pg]
end Go.Sha
