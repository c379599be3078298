/- Unsigned numbers as Lean's own; conversions between kinds. -/
import Derived.Test.YtilcnglcflohoaaSteps
namespace Go.Wk
section
variable {P : Program} {n : Nat} {κ : World} {al : List (Nat × Value)} {L : List Assn} {o : Oper}

theorem wrap8 (x : Int) : IntKind.u8.wrap x = ((UInt8.ofNat (x % 256).toNat).toNat : Int) := by
  rw [IntKind.wrap_u8]; simp [UInt8.toNat_ofNat']; omega
theorem wrap32 (x : Int) : IntKind.u32.wrap x = ((UInt32.ofNat (x % 4294967296).toNat).toNat : Int) := by
  rw [IntKind.wrap_u32]; simp [UInt32.toNat_ofNat']; omega
theorem wrap64 (x : Int) : IntKind.u64.wrap x = ((UInt64.ofNat (x % 18446744073709551616).toNat).toNat : Int) := by
  rw [IntKind.wrap_u64]; simp [UInt64.toNat_ofNat']; omega

theorem B.add8 {x y : UInt8} : BinRun P .add (v8 x) (v8 y) (v8 (x + y)) := by
  have h := B.add (P := P) (k := .u8) (x := x.toNat) (y := y.toNat)
  rwa [show IntKind.u8.wrap ((x.toNat : Int) + y.toNat) = ((x + y).toNat : Int) from by rw [IntKind.wrap_u8]; simp [UInt8.toNat_add]] at h
theorem B.sub8 {x y : UInt8} : BinRun P .sub (v8 x) (v8 y) (v8 (x - y)) := by
  have h := B.sub (P := P) (k := .u8) (x := x.toNat) (y := y.toNat)
  rwa [show IntKind.u8.wrap ((x.toNat : Int) - y.toNat) = ((x - y).toNat : Int) from by
    rw [IntKind.wrap_u8, UInt8.toNat_sub]; have := y.toNat_lt; have := x.toNat_lt; omega] at h
theorem B.mul8 {x y : UInt8} : BinRun P .mul (v8 x) (v8 y) (v8 (x * y)) := by
  have h := B.mul (P := P) (k := .u8) (x := x.toNat) (y := y.toNat)
  rwa [show IntKind.u8.wrap ((x.toNat : Int) * y.toNat) = ((x * y).toNat : Int) from by rw [IntKind.wrap_u8]; simp [UInt8.toNat_mul]] at h
theorem B.add32 {x y : UInt32} : BinRun P .add (v32 x) (v32 y) (v32 (x + y)) := by
  have h := B.add (P := P) (k := .u32) (x := x.toNat) (y := y.toNat)
  rwa [show IntKind.u32.wrap ((x.toNat : Int) + y.toNat) = ((x + y).toNat : Int) from by rw [IntKind.wrap_u32]; simp [UInt32.toNat_add]] at h
theorem B.mul32 {x y : UInt32} : BinRun P .mul (v32 x) (v32 y) (v32 (x * y)) := by
  have h := B.mul (P := P) (k := .u32) (x := x.toNat) (y := y.toNat)
  rwa [show IntKind.u32.wrap ((x.toNat : Int) * y.toNat) = ((x * y).toNat : Int) from by rw [IntKind.wrap_u32]; simp [UInt32.toNat_mul]] at h
theorem B.add64 {x y : UInt64} : BinRun P .add (v64 x) (v64 y) (v64 (x + y)) := by
  have h := B.add (P := P) (k := .u64) (x := x.toNat) (y := y.toNat)
  rwa [show IntKind.u64.wrap ((x.toNat : Int) + y.toNat) = ((x + y).toNat : Int) from by rw [IntKind.wrap_u64]; simp [UInt64.toNat_add]] at h
theorem B.sub64 {x y : UInt64} : BinRun P .sub (v64 x) (v64 y) (v64 (x - y)) := by
  have h := B.sub (P := P) (k := .u64) (x := x.toNat) (y := y.toNat)
  rwa [show IntKind.u64.wrap ((x.toNat : Int) - y.toNat) = ((x - y).toNat : Int) from by
    rw [IntKind.wrap_u64, UInt64.toNat_sub]; have := y.toNat_lt; have := x.toNat_lt; omega] at h
theorem B.mul64 {x y : UInt64} : BinRun P .mul (v64 x) (v64 y) (v64 (x * y)) := by
  have h := B.mul (P := P) (k := .u64) (x := x.toNat) (y := y.toNat)
  rwa [show IntKind.u64.wrap ((x.toNat : Int) * y.toNat) = ((x * y).toNat : Int) from by rw [IntKind.wrap_u64]; simp [UInt64.toNat_mul]] at h

theorem B.rem8 {x y : UInt8} (hy : y.toNat ≠ 0) : BinRun P .rem (v8 x) (v8 y) (v8 (x % y)) := by
  have h := B.rem (P := P) (k := .u8) (x := x.toNat) (y := y.toNat) (by omega)
  rwa [show ((x.toNat : Int)).tmod y.toNat = ((x % y).toNat : Int) from by rw [UInt8.toNat_mod]; rfl] at h
theorem B.quo8 {x y : UInt8} (hy : y.toNat ≠ 0) : BinRun P .quo (v8 x) (v8 y) (v8 (x / y)) := by
  have h := B.quo (P := P) (k := .u8) (x := x.toNat) (y := y.toNat) (by omega)
  rwa [show IntKind.u8.wrap (((x.toNat : Int)).tdiv y.toNat) = ((x / y).toNat : Int) from by
    have e : ((x.toNat : Int)).tdiv y.toNat = ((x / y).toNat : Int) := by rw [UInt8.toNat_div]; rfl
    rw [e, IntKind.wrap_u8]; have := (x / y).toNat_lt; omega] at h
theorem B.rem64 {x y : UInt64} (hy : y.toNat ≠ 0) : BinRun P .rem (v64 x) (v64 y) (v64 (x % y)) := by
  have h := B.rem (P := P) (k := .u64) (x := x.toNat) (y := y.toNat) (by omega)
  rwa [show ((x.toNat : Int)).tmod y.toNat = ((x % y).toNat : Int) from by rw [UInt64.toNat_mod]; rfl] at h
theorem B.quo64 {x y : UInt64} (hy : y.toNat ≠ 0) : BinRun P .quo (v64 x) (v64 y) (v64 (x / y)) := by
  have h := B.quo (P := P) (k := .u64) (x := x.toNat) (y := y.toNat) (by omega)
  rwa [show IntKind.u64.wrap (((x.toNat : Int)).tdiv y.toNat) = ((x / y).toNat : Int) from by
    have e : ((x.toNat : Int)).tdiv y.toNat = ((x / y).toNat : Int) := by rw [UInt64.toNat_div]; rfl
    rw [e, IntKind.wrap_u64]; have := (x / y).toNat_lt; omega] at h

theorem B.bits {op : BinOp} {k : IntKind} {x y z : Int} {r : BitVec k.bits} (hz : k.wrap r.toNat = z) (hop : (op = .and ∧ r = BitVec.ofInt k.bits x &&& BitVec.ofInt k.bits y) ∨ (op = .or ∧ r = BitVec.ofInt k.bits x ||| BitVec.ofInt k.bits y) ∨ (op = .xor ∧ r = BitVec.ofInt k.bits x ^^^ BitVec.ofInt k.bits y)) :
    BinRun P op (.int k x) (.int k y) (.int k z) := fun T w => by
  subst hz
  rcases hop with ⟨rfl, rfl⟩ | ⟨rfl, rfl⟩ | ⟨rfl, rfl⟩ <;> exact ⟨by simp [binOp, Op.intBits], fun a b => eqGuard_int _ _ _ _ _ _ _ _ _⟩

theorem ofInt8 (x : UInt8) : BitVec.ofInt IntKind.u8.bits (x.toNat : Int) = x.toBitVec := by
  apply BitVec.eq_of_toNat_eq; simp [IntKind.bits]
theorem ofInt32 (x : UInt32) : BitVec.ofInt IntKind.u32.bits (x.toNat : Int) = x.toBitVec := by
  apply BitVec.eq_of_toNat_eq; simp [IntKind.bits]
theorem ofInt64 (x : UInt64) : BitVec.ofInt IntKind.u64.bits (x.toNat : Int) = x.toBitVec := by
  apply BitVec.eq_of_toNat_eq; simp [IntKind.bits]
theorem wrapBit8 (x : UInt8) : IntKind.u8.wrap (x.toBitVec.toNat : Int) = (x.toNat : Int) := by
  have := x.toNat_lt; rw [IntKind.wrap_u8]; simp; omega
theorem wrapBit32 (x : UInt32) : IntKind.u32.wrap (x.toBitVec.toNat : Int) = (x.toNat : Int) := by
  have := x.toNat_lt; rw [IntKind.wrap_u32]; simp; omega
theorem wrapBit64 (x : UInt64) : IntKind.u64.wrap (x.toBitVec.toNat : Int) = (x.toNat : Int) := by
  have := x.toNat_lt; rw [IntKind.wrap_u64]; simp; omega

theorem B.and8 {x y : UInt8} : BinRun P .and (v8 x) (v8 y) (v8 (x &&& y)) := by
  exact B.bits (P := P) (op := .and) (k := .u8) (x := x.toNat) (y := y.toNat) (r := (x &&& y).toBitVec) (wrapBit8 _) (.inl ⟨rfl, by rw [ofInt8, ofInt8]; rfl⟩)
theorem B.or8 {x y : UInt8} : BinRun P .or (v8 x) (v8 y) (v8 (x ||| y)) := by
  exact B.bits (P := P) (op := .or) (k := .u8) (x := x.toNat) (y := y.toNat) (r := (x ||| y).toBitVec) (wrapBit8 _) (.inr (.inl ⟨rfl, by rw [ofInt8, ofInt8]; rfl⟩))
theorem B.and32 {x y : UInt32} : BinRun P .and (v32 x) (v32 y) (v32 (x &&& y)) := by
  exact B.bits (P := P) (op := .and) (k := .u32) (x := x.toNat) (y := y.toNat) (r := (x &&& y).toBitVec) (wrapBit32 _) (.inl ⟨rfl, by rw [ofInt32, ofInt32]; rfl⟩)
theorem B.or32 {x y : UInt32} : BinRun P .or (v32 x) (v32 y) (v32 (x ||| y)) := by
  exact B.bits (P := P) (op := .or) (k := .u32) (x := x.toNat) (y := y.toNat) (r := (x ||| y).toBitVec) (wrapBit32 _) (.inr (.inl ⟨rfl, by rw [ofInt32, ofInt32]; rfl⟩))
theorem B.xor32 {x y : UInt32} : BinRun P .xor (v32 x) (v32 y) (v32 (x ^^^ y)) := by
  exact B.bits (P := P) (op := .xor) (k := .u32) (x := x.toNat) (y := y.toNat) (r := (x ^^^ y).toBitVec) (wrapBit32 _) (.inr (.inr ⟨rfl, by rw [ofInt32, ofInt32]; rfl⟩))
theorem B.and64 {x y : UInt64} : BinRun P .and (v64 x) (v64 y) (v64 (x &&& y)) := by
  exact B.bits (P := P) (op := .and) (k := .u64) (x := x.toNat) (y := y.toNat) (r := (x &&& y).toBitVec) (wrapBit64 _) (.inl ⟨rfl, by rw [ofInt64, ofInt64]; rfl⟩)
theorem B.or64 {x y : UInt64} : BinRun P .or (v64 x) (v64 y) (v64 (x ||| y)) := by
  exact B.bits (P := P) (op := .or) (k := .u64) (x := x.toNat) (y := y.toNat) (r := (x ||| y).toBitVec) (wrapBit64 _) (.inr (.inl ⟨rfl, by rw [ofInt64, ofInt64]; rfl⟩))
theorem B.xor64 {x y : UInt64} : BinRun P .xor (v64 x) (v64 y) (v64 (x ^^^ y)) := by
  exact B.bits (P := P) (op := .xor) (k := .u64) (x := x.toNat) (y := y.toNat) (r := (x ^^^ y).toBitVec) (wrapBit64 _) (.inr (.inr ⟨rfl, by rw [ofInt64, ofInt64]; rfl⟩))
theorem B.xorI {x y : Int} {z : Int} (hz : IntKind.i64.wrap (BitVec.ofInt 64 x ^^^ BitVec.ofInt 64 y).toNat = z) : BinRun P .xor (vI x) (vI y) (vI z) := by
  subst hz
  exact B.bits (P := P) (op := .xor) (k := .i64) rfl (.inr (.inr ⟨rfl, rfl⟩))

theorem B.shl {k k' : IntKind} {x y : Int} (hy : 0 ≤ y) : BinRun P .shl (.int k x) (.int k' y) (.int k (k.wrap (x * 2 ^ (min y.toNat k.bits)))) := fun T w =>
  ⟨by have h : ¬ y < 0 := by omega
      simp [binOp, Op.shift, h], fun a b => eqGuard_int _ _ _ _ _ _ _ _ _⟩
theorem B.shr {k k' : IntKind} {x y : Int} (hy : 0 ≤ y) : BinRun P .shr (.int k x) (.int k' y) (.int k (x.fdiv (2 ^ (min y.toNat k.bits)))) := fun T w =>
  ⟨by have h : ¬ y < 0 := by omega
      simp [binOp, Op.shift, h], fun a b => eqGuard_int _ _ _ _ _ _ _ _ _⟩

theorem B.shr64 {x : UInt64} {k' : IntKind} {c : Int} (d : UInt64) (hc : 0 ≤ c) (hd : d.toNat = 2 ^ (min c.toNat 64)) : BinRun P .shr (v64 x) (.int k' c) (v64 (x / d)) := by
  have h := B.shr (P := P) (k := .u64) (k' := k') (x := x.toNat) (y := c) hc
  have e : ((x.toNat : Int)).fdiv (2 ^ (min c.toNat IntKind.u64.bits)) = ((x / d).toNat : Int) := by
    rw [UInt64.toNat_div, hd]
    rw [Int.fdiv_eq_ediv_of_nonneg _ (by exact Int.le_of_lt (Int.pow_pos (by decide)))]
    simp [IntKind.bits]
  rwa [e] at h
theorem B.shl64 {x : UInt64} {k' : IntKind} {c : Int} (d : UInt64) (hc : 0 ≤ c) (hd : d.toNat = 2 ^ (min c.toNat 64)) : BinRun P .shl (v64 x) (.int k' c) (v64 (x * d)) := by
  have h := B.shl (P := P) (k := .u64) (k' := k') (x := x.toNat) (y := c) hc
  have e : IntKind.u64.wrap ((x.toNat : Int) * 2 ^ (min c.toNat IntKind.u64.bits)) = ((x * d).toNat : Int) := by
    rw [IntKind.wrap_u64, UInt64.toNat_mul, hd]
    simp [IntKind.bits]
  rwa [e] at h
theorem B.shrI63 {x : Int} {k' : IntKind} (h1 : -9223372036854775808 ≤ x) (h2 : x ≤ 9223372036854775807) : BinRun P .shr (vI x) (.int k' 63) (vI (if x < 0 then -1 else 0)) := by
  have h := B.shr (P := P) (k := .i64) (k' := k') (x := x) (y := 63) (by omega)
  have e : x.fdiv (2 ^ (min (63 : Int).toNat IntKind.i64.bits)) = if x < 0 then -1 else 0 := by
    have : (2 : Int) ^ (min (63 : Int).toNat IntKind.i64.bits) = 9223372036854775808 := by simp [IntKind.bits]
    rw [this, Int.fdiv_eq_ediv_of_nonneg _ (by omega)]
    split <;> omega
  rwa [e] at h

/- Conversions. -/
theorem V.to8 {S D : TypeId} {x : Operand} {k : IntKind} {i : Int} (ho : o.op = .convert S D x) (hS : ∃ d, P.underlying S = some d) (hD : P.underlying D = some (.int .u8)) (hx : ev al x = some (.int k i)) : OpV P n κ al L o (v8 (UInt8.ofNat (i % 256).toNat)) := by
  have h := V.toInt (κ := κ) (L := L) (n := n) ho hS hD hx
  rwa [wrap8] at h
theorem V.to32 {S D : TypeId} {x : Operand} {k : IntKind} {i : Int} (ho : o.op = .convert S D x) (hS : ∃ d, P.underlying S = some d) (hD : P.underlying D = some (.int .u32)) (hx : ev al x = some (.int k i)) : OpV P n κ al L o (v32 (UInt32.ofNat (i % 4294967296).toNat)) := by
  have h := V.toInt (κ := κ) (L := L) (n := n) ho hS hD hx
  rwa [wrap32] at h
theorem V.to64 {S D : TypeId} {x : Operand} {k : IntKind} {i : Int} (ho : o.op = .convert S D x) (hS : ∃ d, P.underlying S = some d) (hD : P.underlying D = some (.int .u64)) (hx : ev al x = some (.int k i)) : OpV P n κ al L o (v64 (UInt64.ofNat (i % 18446744073709551616).toNat)) := by
  have h := V.toInt (κ := κ) (L := L) (n := n) ho hS hD hx
  rwa [wrap64] at h
theorem V.toI {S D : TypeId} {x : Operand} {k : IntKind} {i : Int} (ho : o.op = .convert S D x) (hS : ∃ d, P.underlying S = some d) (hD : P.underlying D = some (.int .i64)) (hx : ev al x = some (.int k i)) (h1 : -9223372036854775808 ≤ i) (h2 : i ≤ 9223372036854775807) : OpV P n κ al L o (vI i) := by
  have h := V.toInt (κ := κ) (L := L) (n := n) ho hS hD hx
  rwa [IntWalk.i64_in _ ⟨h1, h2⟩] at h
end
end Go.Wk
