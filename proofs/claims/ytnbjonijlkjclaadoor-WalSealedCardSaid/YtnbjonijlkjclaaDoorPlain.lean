/- Numbers, texts and lists as bytes: plain functions and their laws; no program in sight. -/
namespace Go.Wire

/-- An unsigned number in groups of seven bits, at most f + 1 of them. -/
def uv : Nat → Nat → List UInt8
  | 0, n => [UInt8.ofNat n]
  | f + 1, n => if n < 128 then [UInt8.ofNat n] else UInt8.ofNat (128 + n % 128) :: uv f (n / 128)
def enc (n : UInt64) : List UInt8 := uv 9 n.toNat

theorem uv_small {f n : Nat} (h : n < 128) : uv f n = [UInt8.ofNat n] := by
  cases f with
  | zero => rfl
  | succ f => simp [uv, h]
theorem uv_big {f n : Nat} (h : 128 ≤ n) (hf : n < 128 ^ (f + 1)) : ∃ g, f = g + 1 ∧ n / 128 < 128 ^ (g + 1) ∧ uv f n = UInt8.ofNat (128 + n % 128) :: uv g (n / 128) := by
  cases f with
  | zero => simp at hf; omega
  | succ g =>
    refine ⟨g, rfl, ?_, by simp [uv, show ¬ n < 128 from by omega]⟩
    rw [Nat.pow_succ] at hf
    omega
theorem uv_length (f n : Nat) : (uv f n).length ≤ f + 1 ∧ 1 ≤ (uv f n).length := by
  induction f generalizing n with
  | zero => simp [uv]
  | succ f ih =>
    simp only [uv]
    split
    · simp
    · have := ih (n / 128); simp; omega
theorem enc_length (n : UInt64) : (enc n).length ≤ 10 ∧ 1 ≤ (enc n).length := uv_length 9 _
theorem lt_pow (n : UInt64) : n.toNat < 128 ^ (9 + 1) := by
  have := n.toNat_lt
  have : (2 : Nat) ^ 64 ≤ 128 ^ 10 := by decide
  omega

/- bytes as the code makes them -/
theorem byte_hi (x : UInt64) : UInt8.ofNat (((128 + x % 128 : UInt64).toNat : Int) % 256).toNat = UInt8.ofNat (128 + x.toNat % 128) := by
  have h : (128 + x % 128 : UInt64).toNat = 128 + x.toNat % 128 := by
    rw [UInt64.toNat_add, UInt64.toNat_mod]
    simp
    omega
  rw [h]
  apply UInt8.toNat_inj.1
  simp
  omega
theorem byte_lo (x : UInt64) : UInt8.ofNat ((x.toNat : Int) % 256).toNat = UInt8.ofNat x.toNat := by
  apply UInt8.toNat_inj.1
  simp
  omega
theorem or_table : ∀ y : Fin 256, UInt8.ofNat y.val ||| 128 = UInt8.ofNat (128 + y.val % 128) := by decide +kernel
theorem byte_or (x : UInt64) : UInt8.ofNat ((x.toNat : Int) % 256).toNat ||| 128 = UInt8.ofNat (128 + x.toNat % 128) := by
  have h := or_table ⟨x.toNat % 256, Nat.mod_lt _ (by decide)⟩
  simp only at h
  have e : ((x.toNat : Int) % 256).toNat = x.toNat % 256 := by omega
  rw [e, h]
  congr 2
  omega
theorem len64 (n : Nat) : UInt64.ofNat ((n : Int) % 18446744073709551616).toNat = UInt64.ofNat n := by
  apply UInt64.toNat_inj.1
  simp
  omega

/-- The number that stands for an int. -/
def zig (n : Int) : UInt64 := if n < 0 then UInt64.ofNat (2 * (-(n + 1)).toNat + 1) else UInt64.ofNat (2 * n.toNat)
theorem zig_neg {n : Int} (h : n < 0) (h1 : -9223372036854775808 ≤ n) : 2 * UInt64.ofNat ((-(n + 1)) % 18446744073709551616).toNat + 1 = zig n := by
  simp only [zig, h, if_true]
  apply UInt64.toNat_inj.1
  simp [UInt64.toNat_add, UInt64.toNat_mul]
  omega
theorem zig_pos {n : Int} (h : ¬ n < 0) (h1 : n ≤ 9223372036854775807) : 2 * UInt64.ofNat (n % 18446744073709551616).toNat = zig n := by
  simp only [zig, h, if_false]
  apply UInt64.toNat_inj.1
  simp [UInt64.toNat_mul]
  omega
theorem zig_code {n : Int} (h1 : -9223372036854775808 ≤ n) (h2 : n ≤ 9223372036854775807) :
    UInt64.ofNat (n % 18446744073709551616).toNat * 2 ^^^ UInt64.ofNat ((if n < 0 then -1 else 0 : Int) % 18446744073709551616).toNat = zig n := by
  by_cases h : n < 0
  · rw [if_pos h, ← zig_neg h h1]
    have e : UInt64.ofNat ((-1 : Int) % 18446744073709551616).toNat = -1 := by decide
    rw [e, show ∀ a : UInt64, a ^^^ -1 = ~~~ a from fun a => by
      apply UInt64.toBitVec_inj.1; simp]
    apply UInt64.toNat_inj.1
    rw [UInt64.toNat_not]
    simp [UInt64.toNat_add, UInt64.toNat_mul]
    omega
  · rw [if_neg h, ← zig_pos h h2]
    have e : UInt64.ofNat ((0 : Int) % 18446744073709551616).toNat = 0 := by decide
    rw [e, UInt64.xor_zero, UInt64.mul_comm]

def encBool (b : Bool) : List UInt8 := [if b then 1 else 0]
def encText (s : List UInt8) : List UInt8 := enc (UInt64.ofNat s.length) ++ s
def encList (l : List Int) : List UInt8 := l.flatMap fun n => enc (zig n)
def encInts (l : List Int) : List UInt8 := enc (UInt64.ofNat l.length) ++ encList l
theorem encList_snoc (l : List Int) (n : Int) : encList (l ++ [n]) = encList l ++ enc (zig n) := by simp [encList]
theorem encList_length (l : List Int) : (encList l).length ≤ 10 * l.length := by
  induction l with
  | nil => simp [encList]
  | cons x l ih =>
    have := enc_length (zig x)
    simp only [encList, List.flatMap_cons, List.length_append, List.length_cons] at *
    omega
end Go.Wire
