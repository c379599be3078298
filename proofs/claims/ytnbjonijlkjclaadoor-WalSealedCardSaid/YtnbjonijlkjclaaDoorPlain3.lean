/- What is written is read again. Plain laws. -/
import Derived.Test.YtnbjonijlkjclaaDoorPlain2
namespace Go.Wire
theorem u8_big {x : Nat} : (UInt8.ofNat (128 + x % 128)).toNat = 128 + x % 128 := by
  rw [UInt8.toNat_ofNat']; have := Nat.mod_lt x (show 0 < 128 by decide); omega
theorem u8_small {x : Nat} (h : x < 128) : (UInt8.ofNat x).toNat = x := by rw [UInt8.toNat_ofNat']; omega
/-- What uv writes: its length's groups, its value. -/
theorem uv_facts : ∀ (g x : Nat), x < 128 ^ (g + 1) → ∃ n, n ≤ g ∧ (uv g x).length = n + 1 ∧ (∀ j (h : j < (uv g x).length), j < n → 128 ≤ (uv g x)[j].toNat) ∧ (∃ h : n < (uv g x).length, (uv g x)[n].toNat = x / 128 ^ n ∧ x / 128 ^ n < 128 ∧ (0 < n → 0 < x / 128 ^ n)) ∧ val (uv g x) = x
  | 0, x, hx => by
    have hx' : x < 128 := by simpa using hx
    have e : uv 0 x = [UInt8.ofNat x] := rfl
    refine ⟨0, Nat.le_refl _, by rw [e]; rfl, fun j _ h => absurd h (by omega), ⟨by rw [e]; simp, ?_⟩, ?_⟩
    · simp only [e, List.getElem_cons_zero, Nat.pow_zero, Nat.div_one]
      exact ⟨u8_small hx', hx', fun h => absurd h (by omega)⟩
    · rw [e]; simp only [val]; rw [u8_small hx']; omega
  | g + 1, x, hx => by
    by_cases h : 128 ≤ x
    · have e : uv (g + 1) x = UInt8.ofNat (128 + x % 128) :: uv g (x / 128) := by simp only [uv]; rw [if_neg (by omega)]
      have hx2 : x / 128 < 128 ^ (g + 1) := by
        rw [Nat.div_lt_iff_lt_mul (by decide)]
        rw [Nat.pow_succ] at hx; exact hx
      obtain ⟨n, h1, h2, h3, ⟨h4, h5, h6, h7⟩, h8⟩ := uv_facts g (x / 128) hx2
      have hp : x / 128 / 128 ^ n = x / 128 ^ (n + 1) := by rw [Nat.div_div_eq_div_mul, Nat.pow_succ, Nat.mul_comm]
      refine ⟨n + 1, by omega, by rw [e]; simp [h2], fun j hj hjn => ?_, ⟨by rw [e]; simp; omega, ?_⟩, ?_⟩
      · simp only [e]
        cases j with
        | zero => simp only [List.getElem_cons_zero]; rw [u8_big]; omega
        | succ j => simp only [List.getElem_cons_succ]; exact h3 j (by rw [e] at hj; simpa using hj) (by omega)
      · simp only [e, List.getElem_cons_succ]
        rw [← hp]
        refine ⟨h5, h6, fun _ => ?_⟩
        by_cases hn : n = 0
        · subst hn; simp; omega
        · exact h7 (by omega)
      · rw [e]; simp only [val]; rw [u8_big, h8]; omega
    · have hx' : x < 128 := by omega
      have e : uv (g + 1) x = [UInt8.ofNat x] := by simp only [uv]; rw [if_pos hx']
      refine ⟨0, by omega, by rw [e]; rfl, fun j _ h => absurd h (by omega), ⟨by rw [e]; simp, ?_⟩, ?_⟩
      · simp only [e, List.getElem_cons_zero, Nat.pow_zero, Nat.div_one]
        exact ⟨u8_small hx', hx', fun h => absurd h (by omega)⟩
      · rw [e]; simp only [val]; rw [u8_small hx']; omega

theorem rdU_enc (u : UInt64) (r : List UInt8) : rdU (enc u ++ r) 0 = (r, 0, u) := by
  have hlt := u.toNat_lt
  obtain ⟨n, h1, h2, h3, ⟨h4, h5, h6, h7⟩, h8⟩ := uv_facts 9 u.toNat (lt_pow u)
  change (enc u).length = n + 1 at h2
  have he : enc u = uv 9 u.toNat := rfl
  have hget : ∀ j (h : j < (enc u).length), (enc u ++ r)[j]'(by simp; omega) = (uv 9 u.toNat)[j]'(by rw [← he]; exact h) := fun j h => by
    rw [List.getElem_append_left h]; rfl
  have hlead : lead 10 (enc u ++ r) = n := by
    refine lead_eq (by omega) (by simp; omega) (fun j hj hjn => ?_) (.inr (.inr ⟨by simp; omega, ?_⟩))
    · rw [hget j (by omega)]; exact h3 j _ hjn
    · rw [hget n (by omega), h5]; exact h6
  rw [rdU_ok hlead (by omega) (by simp; omega) ?_]
  · rw [← h2, List.drop_left, List.take_left, he, h8]
    simp
  · rw [hget n (by omega), h5]
    have h9 : n = 9 → u.toNat / 128 ^ n ≤ 1 := fun e => by
      subst e
      have : (128 : Nat) ^ 9 = 9223372036854775808 := by decide
      rw [this]; omega
    intro hc
    rcases hc with ⟨e, hc⟩ | ⟨e, hc⟩
    · have := h9 e; omega
    · have := h7 e; omega
theorem rdI_enc {n : Int} (h1 : -9223372036854775808 ≤ n) (h2 : n ≤ 9223372036854775807) (r : List UInt8) : rdI (enc (zig n) ++ r) 0 = (r, 0, n) := by
  rw [rdI_eq (rdU_enc (zig n) r), zag_zig h1 h2]
theorem rdB_enc (b : Bool) (r : List UInt8) : rdB (encBool b ++ r) 0 = (r, 0, b) := by cases b <;> rfl
theorem rdL_enc {k : Nat} {most : Int} (h : (k : Int) ≤ most) (h2 : most ≤ 9223372036854775807) (r : List UInt8) : rdL (enc (UInt64.ofNat k) ++ r) 0 most = (r, 0, k) := by
  have e : (UInt64.ofNat k).toNat = k := by rw [UInt64.toNat_ofNat']; omega
  rw [rdL_ok (rdU_enc _ r) (by rw [e]; omega), e]
theorem rdS_enc {s : List UInt8} {most : Int} (h : (s.length : Int) ≤ most) (h2 : most ≤ 9223372036854775807) (r : List UInt8) : rdS (encText s ++ r) 0 most = (r, 0, s) := by
  unfold encText
  rw [List.append_assoc, rdS_ok (rdL_enc h h2 (s ++ r)) (by simp), List.drop_left, List.take_left]
theorem rdN_enc : ∀ (xs : List Int) (r : List UInt8), (∀ x ∈ xs, -9223372036854775808 ≤ x ∧ x ≤ 9223372036854775807) → rdN xs.length (encList xs ++ r) 0 = (r, 0, xs)
  | [], r, _ => rfl
  | x :: xs, r, h => by
    have hx := h x (List.mem_cons_self ..)
    have e : encList (x :: xs) ++ r = enc (zig x) ++ (encList xs ++ r) := by rw [← List.append_assoc]; rfl
    rw [e, List.length_cons, rdN_next (rdI_enc hx.1 hx.2 _), rdN_enc xs r fun y hy => h y (List.mem_cons_of_mem _ hy)]
theorem rdIs_enc {xs : List Int} {most : Int} (h : (xs.length : Int) ≤ most) (h2 : most ≤ 9223372036854775807) (hi : ∀ x ∈ xs, -9223372036854775808 ≤ x ∧ x ≤ 9223372036854775807) (r : List UInt8) : rdIs (encInts xs ++ r) 0 most = (r, 0, xs) := by
  unfold encInts
  rw [List.append_assoc]
  exact rdIs_ok (rdL_enc h h2 _) (rdN_enc xs r hi)
end Go.Wire
