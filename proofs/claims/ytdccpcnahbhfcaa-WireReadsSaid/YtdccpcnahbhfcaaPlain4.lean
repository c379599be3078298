/- Reading what is cut short; what reading leaves. Plain laws. -/
import Derived.Test.YtdccpcnahbhfcaaPlain3
namespace Go.Wire
theorem rdI_len {l l' : List UInt8} {e e' x : Int} (h : rdI l e = (l', e', x)) : l'.length ≤ l.length := by
  have := rdU_len (l := l) (e := e) rfl
  simp only [rdI, Prod.mk.injEq] at h
  rw [← h.1]; exact this
theorem rdB_len {l l' : List UInt8} {e e' : Int} {x : Bool} (h : rdB l e = (l', e', x)) : l'.length ≤ l.length := by
  unfold rdB at h
  split at h
  · cases h; exact Nat.le_refl _
  · split at h
    · cases h; exact Nat.le_refl _
    · split at h
      · cases h; exact Nat.le_refl _
      · cases h; simp
theorem rdS_len {l l' : List UInt8} {e e' most : Int} {x : List UInt8} (h : rdS l e most = (l', e', x)) : l'.length ≤ l.length := by
  have := rdL_len (l := l) (e := e) (most := most) rfl
  simp only [rdS] at h
  split at h
  · cases h; exact this
  · split at h
    · cases h; exact this
    · cases h
      rw [List.length_drop]; exact Nat.le_trans (Nat.sub_le _ _) this
theorem rdN_len : ∀ {n : Nat} {l l' : List UInt8} {e e' : Int} {xs : List Int}, rdN n l e = (l', e', xs) → l'.length ≤ l.length
  | 0, _, _, _, _, _, h => by cases h; exact Nat.le_refl _
  | n + 1, l, l', e, e', xs, h => by
    simp only [rdN] at h
    split at h
    · cases h; exact Nat.le_refl _
    · have h1 := rdI_len (l := l) (e := e) rfl
      have h2 := rdN_len (n := n) (l := (rdI l e).1) (e := (rdI l e).2.1) rfl
      have h3 := congrArg Prod.fst h
      change (rdN n (rdI l e).1 (rdI l e).2.1).1 = l' at h3
      rw [← h3]; exact Nat.le_trans h2 h1
theorem rdIs_len {l l' : List UInt8} {e e' most : Int} {x : List Int} (h : rdIs l e most = (l', e', x)) : l'.length ≤ l.length := by
  have h1 := rdL_len (l := l) (e := e) (most := most) rfl
  have h2 := rdN_len (n := (rdL l e most).2.2) (l := (rdL l e most).1) (e := 0) rfl
  simp only [rdIs] at h
  split at h
  · cases h; exact h1
  · split at h
    · cases h; exact Nat.le_trans h2 h1
    · have h3 := congrArg Prod.fst h
      change (rdN (rdL l e most).2.2 (rdL l e most).1 0).1 = l' at h3
      rw [← h3]; exact Nat.le_trans h2 h1
theorem rdI_err {l : List UInt8} {e : Int} (h : e ≠ 0) : rdI l e = (l, e, 0) := rdI_eq (rdU_err h)
theorem rdS_errE {l : List UInt8} {e most : Int} (h : e ≠ 0) : rdS l e most = (l, e, []) := rdS_err (rdL_err (rdU_err h) h) h
theorem rdIs_errE {l : List UInt8} {e most : Int} (h : e ≠ 0) : rdIs l e most = (l, e, []) := rdIs_err (rdL_err (rdU_err h) h) h

/- a proper part of what was written ends too early -/
theorem rdU_cut {u : UInt64} {k : Nat} (hk : k < (enc u).length) : rdU ((enc u).take k) 0 = ((enc u).take k, 6, 0) := by
  obtain ⟨n, h1, h2, h3, ⟨h4, h5, h6, h7⟩, h8⟩ := uv_facts 9 u.toNat (lt_pow u)
  change (enc u).length = n + 1 at h2
  have hl : ((enc u).take k).length = k := by rw [List.length_take]; omega
  refine rdU_short (lead_eq (i := k) (by omega) (by omega) (fun j hj hjk => ?_) (.inr (.inl hl.symm))) (by omega) hl.symm
  rw [List.getElem_take]
  exact h3 j _ (by omega)
theorem rdI_cut {n : Int} {k : Nat} (hk : k < (enc (zig n)).length) : rdI ((enc (zig n)).take k) 0 = ((enc (zig n)).take k, 6, 0) := rdI_eq (rdU_cut hk)
theorem take_app {α : Type} (a b : List α) (k : Nat) : (k < a.length ∧ (a ++ b).take k = a.take k) ∨ (a.length ≤ k ∧ (a ++ b).take k = a ++ b.take (k - a.length)) := by
  by_cases h : k < a.length
  · exact .inl ⟨h, by rw [List.take_append_of_le_length (by omega)]⟩
  · exact .inr ⟨by omega, by rw [List.take_append, List.take_of_length_le (by omega)]⟩
theorem rdS_cut {s : List UInt8} {most : Int} {k : Nat} (h : (s.length : Int) ≤ most) (h2 : most ≤ 9223372036854775807) (hk : k < (encText s).length) : ∃ l', rdS ((encText s).take k) 0 most = (l', 6, []) := by
  unfold encText at *
  rcases take_app (enc (UInt64.ofNat s.length)) s k with ⟨h1, e⟩ | ⟨h1, e⟩
  · rw [e]; exact ⟨_, rdS_err (rdL_err (rdU_cut h1) (by decide)) (by decide)⟩
  · rw [e]
    rw [List.length_append] at hk
    exact ⟨_, rdS_short (rdL_enc h h2 _) (by rw [List.length_take]; omega)⟩
theorem rdN_cut : ∀ (xs : List Int) (k : Nat), (∀ x ∈ xs, -9223372036854775808 ≤ x ∧ x ≤ 9223372036854775807) → k < (encList xs).length → ∃ l' ys, rdN xs.length ((encList xs).take k) 0 = (l', 6, ys)
  | [], k, _, hk => by simp [encList] at hk
  | x :: xs, k, h, hk => by
    have hx := h x (List.mem_cons_self ..)
    have e0 : encList (x :: xs) = enc (zig x) ++ encList xs := rfl
    rw [e0] at hk ⊢
    rw [List.length_cons]
    rcases take_app (enc (zig x)) (encList xs) k with ⟨h1, e⟩ | ⟨h1, e⟩
    · rw [e, rdN_next (rdI_cut h1), rdN_err (by decide)]
      exact ⟨_, _, rfl⟩
    · rw [e, rdN_next (rdI_enc hx.1 hx.2 _)]
      rw [List.length_append] at hk
      obtain ⟨l', ys, hr⟩ := rdN_cut xs (k - (enc (zig x)).length) (fun y hy => h y (List.mem_cons_of_mem _ hy)) (by omega)
      rw [hr]; exact ⟨_, _, rfl⟩
theorem rdIs_cut {xs : List Int} {most : Int} {k : Nat} (h : (xs.length : Int) ≤ most) (h2 : most ≤ 9223372036854775807) (hi : ∀ x ∈ xs, -9223372036854775808 ≤ x ∧ x ≤ 9223372036854775807) (hk : k < (encInts xs).length) : ∃ l', rdIs ((encInts xs).take k) 0 most = (l', 6, []) := by
  unfold encInts at *
  rcases take_app (enc (UInt64.ofNat xs.length)) (encList xs) k with ⟨h1, e⟩ | ⟨h1, e⟩
  · rw [e]; exact ⟨_, rdIs_err (rdL_err (rdU_cut h1) (by decide)) (by decide)⟩
  · rw [e]
    rw [List.length_append] at hk
    obtain ⟨l', ys, hr⟩ := rdN_cut xs (k - (enc (UInt64.ofNat xs.length)).length) hi (by omega)
    exact ⟨_, rdIs_err2 (rdL_enc h h2 _) hr (by decide)⟩
theorem rdB_cut {b : Bool} {k : Nat} (hk : k < (encBool b).length) : rdB ((encBool b).take k) 0 = ([], 6, false) := by
  have : k = 0 := by simp [encBool] at hk; omega
  subst this; rfl
end Go.Wire
