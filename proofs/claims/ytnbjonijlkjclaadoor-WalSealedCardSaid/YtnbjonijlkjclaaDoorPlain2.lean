/- Reading: plain functions and their laws; no program in sight. -/
import Derived.Test.YtnbjonijlkjclaaDoorPlain
namespace Go.Wire

/-- How many bytes of at least 128 it begins with, at most f. -/
def lead : Nat → List UInt8 → Nat
  | 0, _ => 0
  | _ + 1, [] => 0
  | f + 1, c :: r => if c.toNat < 128 then 0 else lead f r + 1
/-- The number that groups of seven bits stand for. -/
def val : List UInt8 → Nat
  | [] => 0
  | c :: r => c.toNat % 128 + 128 * val r

theorem lead_eq : ∀ {f i : Nat} {l : List UInt8}, i ≤ f → i ≤ l.length → (∀ j (h : j < l.length), j < i → 128 ≤ l[j].toNat) → (i = f ∨ i = l.length ∨ ∃ h : i < l.length, l[i].toNat < 128) → lead f l = i
  | 0, i, l, h1, _, _, _ => by simp [lead]; omega
  | f + 1, 0, [], _, _, _, _ => rfl
  | f + 1, 0, c :: r, _, _, _, hs => by
    rcases hs with hs | hs | ⟨h, hs⟩
    · omega
    · simp at hs
    · simp at hs; simp [lead, hs]
  | f + 1, i + 1, [], _, h2, _, _ => by simp at h2
  | f + 1, i + 1, c :: r, h1, h2, ha, hs => by
    have h0 := ha 0 (by simp) (by omega)
    simp at h0
    have ih := lead_eq (f := f) (i := i) (l := r) (by omega) (by simpa using h2) (fun j h hj => by have := ha (j + 1) (by simpa using h) (by omega); simpa using this) (by
      rcases hs with hs | hs | ⟨h, hs⟩
      · left; omega
      · right; left; simpa using hs
      · right; right; exact ⟨by simpa using h, by simpa using hs⟩)
    simp [lead, ih, show ¬ c.toNat < 128 from by omega]
theorem lead_le : ∀ (f : Nat) (l : List UInt8), lead f l ≤ f ∧ lead f l ≤ l.length
  | 0, l => by simp [lead]
  | f + 1, [] => by simp [lead]
  | f + 1, c :: r => by
    have := lead_le f r
    simp only [lead]
    split <;> simp <;> omega

theorem val_append (a b : List UInt8) : val (a ++ b) = val a + 128 ^ a.length * val b := by
  induction a with
  | nil => simp [val]
  | cons c a ih =>
    simp only [List.cons_append, val, ih, List.length_cons, Nat.pow_succ, Nat.mul_add]
    rw [show 128 * (128 ^ a.length * val b) = 128 ^ a.length * 128 * val b from by rw [← Nat.mul_assoc, Nat.mul_comm 128]]
    omega
theorem val_lt (l : List UInt8) : val l < 128 ^ l.length := by
  induction l with
  | nil => simp [val]
  | cons c l ih =>
    simp only [val, List.length_cons, Nat.pow_succ]
    have : c.toNat % 128 < 128 := Nat.mod_lt _ (by decide)
    omega
theorem val_snoc (l : List UInt8) (c : UInt8) : val (l ++ [c]) = val l + 128 ^ l.length * (c.toNat % 128) := by
  rw [val_append]; simp [val]
theorem val_drop (l : List UInt8) (i : Nat) (h : i < l.length) : val (l.drop i) = l[i].toNat % 128 + 128 * val (l.drop (i + 1)) := by
  rw [List.drop_eq_getElem_cons h]; rfl

/-- Reading a number: what is left, the error, the number. -/
def rdU (l : List UInt8) (e : Int) : List UInt8 × Int × UInt64 :=
  if e ≠ 0 then (l, e, 0) else
  let n := lead 10 l
  if n = 10 then (l, 7, 0) else if n = l.length then (l, 6, 0) else
  if (n = 9 ∧ 1 < (l.getD n 0).toNat) ∨ (0 < n ∧ (l.getD n 0).toNat = 0) then (l, 7, 0) else
  (l.drop (n + 1), 0, UInt64.ofNat (val (l.take (n + 1))))

theorem rdU_err {l : List UInt8} {e : Int} (h : e ≠ 0) : rdU l e = (l, e, 0) := by simp [rdU, h]
theorem rdU_ten {l : List UInt8} (h : lead 10 l = 10) : rdU l 0 = (l, 7, 0) := by simp [rdU, h]
theorem rdU_short {l : List UInt8} {i : Nat} (h : lead 10 l = i) (h1 : ¬ i = 10) (h2 : i = l.length) : rdU l 0 = (l, 6, 0) := by
  subst h2; simp only [rdU, h]; simp [h1]
theorem rdU_form {l : List UInt8} {i : Nat} (h : lead 10 l = i) (h1 : ¬ i = 10) (h2 : i < l.length) (h3 : (i = 9 ∧ 1 < (l[i]).toNat) ∨ (0 < i ∧ (l[i]).toNat = 0)) : rdU l 0 = (l, 7, 0) := by
  have hg : l.getD i 0 = l[i] := by simp [List.getD, h2]
  simp only [rdU, h, hg]
  rw [if_neg (by simp), if_neg h1, if_neg (by omega), if_pos h3]
theorem rdU_ok {l : List UInt8} {i : Nat} (h : lead 10 l = i) (h1 : ¬ i = 10) (h2 : i < l.length) (h3 : ¬ ((i = 9 ∧ 1 < (l[i]).toNat) ∨ (0 < i ∧ (l[i]).toNat = 0))) : rdU l 0 = (l.drop (i + 1), 0, UInt64.ofNat (val (l.take (i + 1)))) := by
  have hg : l.getD i 0 = l[i] := by simp [List.getD, h2]
  simp only [rdU, h, hg]
  rw [if_neg (by simp), if_neg h1, if_neg (by omega), if_neg h3]

/-- A group is put before the others, as the code does it. -/
theorem or_group {l : List UInt8} {c : UInt8} {i : Nat} (hl : l.length = i) (hi : i ≤ 9) :
    UInt64.ofNat (val l) ||| UInt64.ofNat (((c &&& 127).toNat : Int) % 18446744073709551616).toNat * UInt64.ofNat (2 ^ (7 * i)) = UInt64.ofNat (val (l ++ [c])) := by
  have hand : (c &&& 127).toNat = c.toNat % 128 := by
    rw [UInt8.toNat_and]
    exact Nat.and_two_pow_sub_one_eq_mod _ 7
  have hv := val_lt l
  rw [hl] at hv
  have h128 : (128 : Nat) ^ i = 2 ^ (7 * i) := by rw [Nat.pow_mul]
  rw [h128] at hv
  have hp63 : (2 : Nat) ^ (7 * i) ≤ 2 ^ 63 := Nat.pow_le_pow_right (by decide) (by omega)
  have hp : (2 : Nat) ^ (7 * i) < 2 ^ 64 := Nat.lt_of_le_of_lt hp63 (by decide)
  apply UInt64.toNat_inj.1
  rw [UInt64.toNat_or, UInt64.toNat_mul, val_snoc, hl, h128, hand]
  have e1 : (((c.toNat % 128 : Nat) : Int) % 18446744073709551616).toNat = c.toNat % 128 := by omega
  rw [e1]
  simp only [UInt64.toNat_ofNat']
  have e2 : (c.toNat % 128) % 2 ^ 64 = c.toNat % 128 := Nat.mod_eq_of_lt (by have := Nat.mod_lt c.toNat (show 0 < 128 by decide); omega)
  have e3 : 2 ^ (7 * i) % 2 ^ 64 = 2 ^ (7 * i) := Nat.mod_eq_of_lt hp
  have e4 : val l % 2 ^ 64 = val l := Nat.mod_eq_of_lt (by omega)
  rw [e2, e3, e4]
  -- the product modulo 2^64 is a multiple of 2^(7 i)
  have hsplit : (2 : Nat) ^ 64 = 2 ^ (7 * i) * 2 ^ (64 - 7 * i) := by rw [← Nat.pow_add]; congr 1; omega
  have e5 : c.toNat % 128 * 2 ^ (7 * i) % 2 ^ 64 = 2 ^ (7 * i) * (c.toNat % 128 % 2 ^ (64 - 7 * i)) := by
    rw [hsplit, Nat.mul_comm (c.toNat % 128), Nat.mul_mod_mul_left]
  rw [e5, Nat.or_comm, ← Nat.two_pow_add_eq_or_of_lt hv]
  have e6 : (val l + 2 ^ (7 * i) * (c.toNat % 128)) % 2 ^ 64 = 2 ^ (7 * i) * (c.toNat % 128 % 2 ^ (64 - 7 * i)) + val l := by
    rw [Nat.add_mod, ← e5, Nat.mul_comm (2 ^ (7 * i)) (c.toNat % 128), e4]
    rw [Nat.add_comm]
    apply Nat.mod_eq_of_lt
    rw [e5]
    have h1 : c.toNat % 128 % 2 ^ (64 - 7 * i) + 1 ≤ 2 ^ (64 - 7 * i) := Nat.mod_lt _ (Nat.pow_pos (by decide))
    have h2 : 2 ^ (7 * i) * (c.toNat % 128 % 2 ^ (64 - 7 * i) + 1) ≤ 2 ^ (7 * i) * 2 ^ (64 - 7 * i) := Nat.mul_le_mul_left _ h1
    rw [← hsplit, Nat.mul_add, Nat.mul_one] at h2
    omega
  rw [e6]

/-- The int that a number stands for. -/
def zag (u : UInt64) : Int := if u.toNat % 2 = 1 then -((u.toNat / 2 : Nat) : Int) - 1 else ((u.toNat / 2 : Nat) : Int)
theorem zag_in (u : UInt64) : -9223372036854775808 ≤ zag u ∧ zag u ≤ 9223372036854775807 := by
  have := u.toNat_lt
  unfold zag; split <;> omega
theorem zag_zig {n : Int} (h1 : -9223372036854775808 ≤ n) (h2 : n ≤ 9223372036854775807) : zag (zig n) = n := by
  unfold zag zig
  by_cases h : n < 0
  · simp only [if_pos h, UInt64.toNat_ofNat']
    rw [if_pos (by omega)]
    omega
  · simp only [if_neg h, UInt64.toNat_ofNat']
    rw [if_neg (by omega)]
    omega

def rdI (l : List UInt8) (e : Int) : List UInt8 × Int × Int := let r := rdU l e; (r.1, r.2.1, zag r.2.2)
def rdB (l : List UInt8) (e : Int) : List UInt8 × Int × Bool :=
  if e ≠ 0 then (l, e, false) else match l with
  | [] => (l, 6, false)
  | c :: r => if 1 < c.toNat then (l, 7, false) else (r, 0, decide (c.toNat = 1))
/-- A length of at most 'most'. -/
def rdL (l : List UInt8) (e : Int) (most : Int) : List UInt8 × Int × Nat :=
  let r := rdU l e
  if r.2.1 ≠ 0 then (r.1, r.2.1, 0) else if most < 0 ∨ most < r.2.2.toNat then (r.1, 2, 0) else (r.1, 0, r.2.2.toNat)
def rdS (l : List UInt8) (e : Int) (most : Int) : List UInt8 × Int × List UInt8 :=
  let r := rdL l e most
  if r.2.1 ≠ 0 then (r.1, r.2.1, []) else if r.1.length < r.2.2 then (r.1, 6, []) else (r.1.drop r.2.2, 0, r.1.take r.2.2)
/-- n ints, or till the first error. -/
def rdN : Nat → List UInt8 → Int → List UInt8 × Int × List Int
  | 0, l, e => (l, e, [])
  | n + 1, l, e => if e ≠ 0 then (l, e, []) else let r := rdI l e; let s := rdN n r.1 r.2.1; (s.1, s.2.1, r.2.2 :: s.2.2)
def rdIs (l : List UInt8) (e : Int) (most : Int) : List UInt8 × Int × List Int :=
  let r := rdL l e most
  if r.2.1 ≠ 0 then (r.1, r.2.1, []) else
  let s := rdN r.2.2 r.1 0
  if s.2.1 ≠ 0 then (s.1, s.2.1, []) else s

/- the single ways -/
theorem rdI_eq {l l' : List UInt8} {e e' : Int} {u : UInt64} (h : rdU l e = (l', e', u)) : rdI l e = (l', e', zag u) := by simp [rdI, h]
theorem rdB_err {l : List UInt8} {e : Int} (h : e ≠ 0) : rdB l e = (l, e, false) := by simp [rdB, h]
theorem rdB_nil {l : List UInt8} (h : l.length = 0) : rdB l 0 = (l, 6, false) := by rw [List.eq_nil_of_length_eq_zero h]; rfl
theorem rdB_form {l : List UInt8} (h : 0 < l.length) (h1 : 1 < (l[0]).toNat) : rdB l 0 = (l, 7, false) := by
  cases l with
  | nil => simp at h
  | cons c r => simp at h1; simp [rdB, h1]
theorem rdB_ok {l : List UInt8} (h : 0 < l.length) (h1 : ¬ 1 < (l[0]).toNat) : rdB l 0 = (l.drop 1, 0, decide ((l[0]).toNat = 1)) := by
  cases l with
  | nil => simp at h
  | cons c r => simp at h1; simp [rdB]; omega
theorem rdL_err {l l' : List UInt8} {e e' most : Int} {u : UInt64} (h : rdU l e = (l', e', u)) (h1 : e' ≠ 0) : rdL l e most = (l', e', 0) := by simp [rdL, h, h1]
theorem rdL_bad {l l' : List UInt8} {e most : Int} {u : UInt64} (h : rdU l e = (l', 0, u)) (h1 : most < 0 ∨ most < u.toNat) : rdL l e most = (l', 2, 0) := by simp [rdL, h, h1]
theorem rdL_ok {l l' : List UInt8} {e most : Int} {u : UInt64} (h : rdU l e = (l', 0, u)) (h1 : ¬ (most < 0 ∨ most < u.toNat)) : rdL l e most = (l', 0, u.toNat) := by simp only [rdL, h]; rw [if_neg (by simp), if_neg h1]
theorem rdS_err {l l' : List UInt8} {e e' most : Int} {k : Nat} (h : rdL l e most = (l', e', k)) (h1 : e' ≠ 0) : rdS l e most = (l', e', []) := by simp [rdS, h, h1]
theorem rdS_short {l l' : List UInt8} {e most : Int} {k : Nat} (h : rdL l e most = (l', 0, k)) (h1 : l'.length < k) : rdS l e most = (l', 6, []) := by simp [rdS, h, h1]
theorem rdS_ok {l l' : List UInt8} {e most : Int} {k : Nat} (h : rdL l e most = (l', 0, k)) (h1 : ¬ l'.length < k) : rdS l e most = (l'.drop k, 0, l'.take k) := by simp only [rdS, h]; rw [if_neg (by simp), if_neg h1]
theorem rdN_zero {l : List UInt8} {e : Int} : rdN 0 l e = (l, e, []) := rfl
theorem rdN_err {n : Nat} {l : List UInt8} {e : Int} (h : e ≠ 0) : rdN n l e = (l, e, []) := by cases n <;> simp [rdN, h]
theorem rdN_next {n : Nat} {l l' : List UInt8} {e' x : Int} (h : rdI l 0 = (l', e', x)) : rdN (n + 1) l 0 = ((rdN n l' e').1, (rdN n l' e').2.1, x :: (rdN n l' e').2.2) := by simp [rdN, h]
theorem rdIs_err {l l' : List UInt8} {e e' most : Int} {k : Nat} (h : rdL l e most = (l', e', k)) (h1 : e' ≠ 0) : rdIs l e most = (l', e', []) := by simp [rdIs, h, h1]
theorem rdIs_err2 {l l' l2 : List UInt8} {e e2 most : Int} {k : Nat} {xs : List Int} (h : rdL l e most = (l', 0, k)) (h1 : rdN k l' 0 = (l2, e2, xs)) (h2 : e2 ≠ 0) : rdIs l e most = (l2, e2, []) := by simp [rdIs, h, h1, h2]
theorem rdIs_ok {l l' l2 : List UInt8} {e most : Int} {k : Nat} {xs : List Int} (h : rdL l e most = (l', 0, k)) (h1 : rdN k l' 0 = (l2, 0, xs)) : rdIs l e most = (l2, 0, xs) := by simp [rdIs, h, h1]
theorem rdU_less {l l' : List UInt8} {u : UInt64} (h : rdU l 0 = (l', 0, u)) : l'.length < l.length := by
  simp only [rdU] at h
  rw [if_neg (by simp)] at h
  split at h
  · simp at h
  · split at h
    · simp at h
    · rename_i h1 h2
      split at h
      · simp at h
      · simp only [Prod.mk.injEq] at h
        rw [← h.1, List.length_drop]
        have : lead 10 l ≤ l.length := (lead_le 10 l).2
        omega
theorem rdL_err0 {l l' : List UInt8} {e e' most : Int} {k : Nat} (h : rdL l e most = (l', e', k)) (h1 : e' ≠ 0) : k = 0 := by
  simp only [rdL] at h
  split at h
  · simp only [Prod.mk.injEq] at h; exact h.2.2.symm
  · split at h
    · simp only [Prod.mk.injEq] at h; exact h.2.2.symm
    · simp only [Prod.mk.injEq] at h; exact absurd h.2.1.symm h1
theorem rdU_len {l l' : List UInt8} {e e' : Int} {u : UInt64} (h : rdU l e = (l', e', u)) : l'.length ≤ l.length := by
  simp only [rdU] at h
  split at h
  · cases h; exact Nat.le_refl _
  · split at h
    · cases h; exact Nat.le_refl _
    · split at h
      · cases h; exact Nat.le_refl _
      · split at h
        · cases h; exact Nat.le_refl _
        · cases h; simp
theorem rdL_len {l l' : List UInt8} {e e' most : Int} {k : Nat} (h : rdL l e most = (l', e', k)) : l'.length ≤ l.length := by
  have := rdU_len (l := l) (e := e) rfl
  simp only [rdL] at h
  split at h
  · cases h; exact this
  · split at h <;> · cases h; exact this
theorem rdI_in {l l' : List UInt8} {e e' x : Int} (h : rdI l e = (l', e', x)) : -9223372036854775808 ≤ x ∧ x ≤ 9223372036854775807 := by
  simp only [rdI, Prod.mk.injEq] at h
  rw [← h.2.2]; exact zag_in _
theorem rdI_less {l l' : List UInt8} {x : Int} (h : rdI l 0 = (l', 0, x)) : l'.length < l.length := by
  simp only [rdI, Prod.mk.injEq] at h
  exact rdU_less (u := (rdU l 0).2.2) (by rw [← h.1]; ext1; rfl; ext1; exact h.2.1; rfl)
theorem rdN_stop {j : Nat} {l : List UInt8} {e : Int} (h : j = 0 ∨ e ≠ 0) : rdN j l e = (l, e, []) := by
  rcases h with rfl | h
  · rfl
  · exact rdN_err h
theorem rdIs_stopE {l l1 l' : List UInt8} {e e1 e' most : Int} {k j : Nat} {acc : List Int} (hr : rdL l e most = (l1, e1, k)) (hi : rdN k l1 e1 = ((rdN j l' e').1, (rdN j l' e').2.1, acc ++ (rdN j l' e').2.2)) (hs : j = 0 ∨ e' ≠ 0) (he : e' ≠ 0) : rdIs l e most = (l', e', []) := by
  rw [rdN_stop hs] at hi
  by_cases h1 : e1 = 0
  · subst h1; exact rdIs_err2 hr hi he
  · rw [rdN_err h1] at hi
    simp only [Prod.mk.injEq] at hi
    rw [rdIs_err hr h1, hi.1, hi.2.1]
theorem rdIs_stopO {l l1 l' : List UInt8} {e e1 e' most : Int} {k j : Nat} {acc : List Int} (hr : rdL l e most = (l1, e1, k)) (hi : rdN k l1 e1 = ((rdN j l' e').1, (rdN j l' e').2.1, acc ++ (rdN j l' e').2.2)) (hs : j = 0 ∨ e' ≠ 0) (he : e' = 0) : rdIs l e most = (l', e', acc) := by
  rw [rdN_stop hs, List.append_nil] at hi
  subst he
  by_cases h1 : e1 = 0
  · subst h1; exact rdIs_ok hr hi
  · rw [rdN_err h1] at hi
    simp only [Prod.mk.injEq] at hi
    exact absurd hi.2.1 h1
theorem rdN_step {k j : Nat} {l1 l' l2 : List UInt8} {e1 e2 x : Int} {acc : List Int} (hi : rdN k l1 e1 = ((rdN (j + 1) l' 0).1, (rdN (j + 1) l' 0).2.1, acc ++ (rdN (j + 1) l' 0).2.2)) (h : rdI l' 0 = (l2, e2, x)) :
    rdN k l1 e1 = ((rdN j l2 e2).1, (rdN j l2 e2).2.1, (acc ++ [x]) ++ (rdN j l2 e2).2.2) := by
  rw [rdN_next h] at hi
  rw [hi]; simp
end Go.Wire
