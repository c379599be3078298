/- What is read whole is what would be written. Plain laws. -/
import Derived.Test.YtdccpcnahbhfcaaPlain4
namespace Go.Wire
theorem u8_split {c : UInt8} (h : 128 ≤ c.toNat) : UInt8.ofNat (128 + c.toNat % 128) = c := by
  apply UInt8.toNat_inj.1
  have := c.toNat_lt
  rw [UInt8.toNat_ofNat']; omega
theorem u8_self (c : UInt8) : UInt8.ofNat c.toNat = c := by simp
/-- Groups, all but the last marked, the last not zero if it is not alone: they are what is written for their value. -/
theorem uv_val : ∀ (g n : Nat) (w : List UInt8), n ≤ g → w.length = n + 1 → (∀ j (h : j < w.length), j < n → 128 ≤ w[j].toNat) → (∀ h : n < w.length, w[n].toNat < 128 ∧ (0 < n → 0 < w[n].toNat)) → uv g (val w) = w
  | g, 0, [c], _, _, _, h4 => by
    have h := (h4 (by simp)).1
    simp only [List.getElem_cons_zero] at h
    have e : val [c] = c.toNat := by simp only [val]; omega
    rw [e, uv_small h, u8_self]
  | g + 1, n + 1, c :: w, h1, h2, h3, h4 => by
    have h2' : w.length = n + 1 := by simpa using h2
    have hc : 128 ≤ c.toNat := h3 0 (by simp) (by omega)
    have ih := uv_val g n w (by omega) h2' (fun j h hj => h3 (j + 1) (by simp; omega) (by omega)) (fun h => ⟨(h4 (by simp; omega)).1, fun _ => (h4 (by simp; omega)).2 (by omega)⟩)
    have hpos : 0 < val w := by
      cases n with
      | zero =>
        match w, h2' with
        | [d], _ =>
          have hd := (h4 (by simp)).2 (by omega)
          have hd2 := (h4 (by simp)).1
          simp only [List.getElem_cons_succ, List.getElem_cons_zero] at hd hd2
          simp only [val]; omega
      | succ n =>
        rcases Nat.eq_zero_or_pos (val w) with h0 | h0
        · exfalso
          rw [h0] at ih
          have : (uv g 0).length = n + 2 := by rw [ih, h2']
          rw [uv_small (by decide)] at this
          simp at this
        · exact h0
    have hv : val (c :: w) = c.toNat % 128 + 128 * val w := rfl
    have hb : ¬ val (c :: w) < 128 := by rw [hv]; omega
    simp only [uv]
    rw [if_neg hb, hv]
    have e1 : (c.toNat % 128 + 128 * val w) % 128 = c.toNat % 128 := by omega
    have e2 : (c.toNat % 128 + 128 * val w) / 128 = val w := by omega
    rw [e1, e2, ih, u8_split hc]
theorem lead_marks : ∀ {f : Nat} {l : List UInt8} (j : Nat) (h : j < l.length), j < lead f l → 128 ≤ l[j].toNat
  | 0, l, j, h, hj => by simp [lead] at hj
  | f + 1, [], j, h, hj => by simp at h
  | f + 1, c :: l, j, h, hj => by
    simp only [lead] at hj
    split at hj
    · omega
    · rename_i hc
      cases j with
      | zero => simp only [List.getElem_cons_zero]; omega
      | succ j => simp only [List.getElem_cons_succ]; exact lead_marks (f := f) j (by simpa using h) (by omega)
theorem lead_end : ∀ {f : Nat} {l : List UInt8} (h : lead f l < l.length), lead f l < f → l[lead f l].toNat < 128
  | 0, l, h, hj => by omega
  | f + 1, [], h, hj => by simp at h
  | f + 1, c :: l, h, hj => by
    by_cases hc : c.toNat < 128
    · have e : lead (f + 1) (c :: l) = 0 := by simp [lead, hc]
      simp only [e, List.getElem_cons_zero]; exact hc
    · have e : lead (f + 1) (c :: l) = lead f l + 1 := by simp [lead, hc]
      simp only [e, List.getElem_cons_succ]
      exact lead_end (by rw [e] at h; simpa using h) (by omega)
theorem val_nine {l : List UInt8} {n : Nat} (hn : n < l.length) (h9 : n = 9) (h1 : (l[n]).toNat ≤ 1) : val (l.take (n + 1)) < 18446744073709551616 := by
  subst h9
  have e : l.take (9 + 1) = l.take 9 ++ [l[9]] := by rw [List.take_add_one, List.getElem?_eq_getElem hn]; rfl
  have h3 := val_lt (l.take 9)
  rw [List.length_take, Nat.min_eq_left (by omega)] at h3
  have e9 : (128 : Nat) ^ 9 = 9223372036854775808 := by decide
  rw [e, val_snoc, List.length_take, Nat.min_eq_left (by omega), e9]
  rw [e9] at h3
  have h2 : (l[9]).toNat % 128 ≤ 1 := by omega
  omega
theorem rdU_canon {l l' : List UInt8} {u : UInt64} (h : rdU l 0 = (l', 0, u)) : enc u ++ l' = l := by
  simp only [rdU] at h
  rw [if_neg (by simp)] at h
  split at h
  · simp at h
  · split at h
    · simp at h
    · rename_i h10 hlen
      have hle := lead_le 10 l
      split at h
      · simp at h
      · rename_i hform
        have hn : lead 10 l < l.length := by omega
        have hg : l.getD (lead 10 l) 0 = l[lead 10 l] := by simp [List.getD, hn]
        rw [hg] at hform
        simp only [Prod.mk.injEq, true_and] at h
        obtain ⟨rfl, rfl⟩ := h
        have hw : (l.take (lead 10 l + 1)).length = lead 10 l + 1 := by rw [List.length_take]; omega
        have hend := lead_end hn (by omega)
        have huv := uv_val 9 (lead 10 l) (l.take (lead 10 l + 1)) (by omega) hw (fun j hj hjn => by rw [List.getElem_take]; exact lead_marks j (by omega) hjn) (fun hj => by
          rw [List.getElem_take]
          exact ⟨hend, fun h0 => by omega⟩)
        have hlt : val (l.take (lead 10 l + 1)) < 18446744073709551616 := by
          have := val_lt (l.take (lead 10 l + 1))
          rw [hw] at this
          by_cases h9 : lead 10 l = 9
          · exact val_nine hn h9 (by omega)
          · have : (128 : Nat) ^ (lead 10 l + 1) ≤ 128 ^ 9 := Nat.pow_le_pow_right (by decide) (by omega)
            have e9 : (128 : Nat) ^ 9 = 9223372036854775808 := by decide
            omega
        unfold enc
        rw [UInt64.toNat_ofNat', Nat.mod_eq_of_lt hlt, huv, List.take_append_drop]
theorem trip {α β : Type} {r : α × Int × β} (h : r.2.1 = 0) : r = (r.1, 0, r.2.2) := by
  obtain ⟨a, b, c⟩ := r
  simp at h; rw [h]
theorem trip2 {α β : Type} {r : α × Int × β} {a : α} (h : r.2.1 = 0) (h1 : r.1 = a) : r = (a, 0, r.2.2) := by rw [← h1]; exact trip h
theorem zig_zag (u : UInt64) : zig (zag u) = u := by
  have hu := u.toNat_lt
  apply UInt64.toNat_inj.1
  unfold zag zig
  by_cases h : u.toNat % 2 = 1
  · rw [if_pos h, if_pos (by omega), UInt64.toNat_ofNat']; omega
  · rw [if_neg h, if_neg (by omega), UInt64.toNat_ofNat']; omega
theorem rdI_canon {l l' : List UInt8} {x : Int} (h : rdI l 0 = (l', 0, x)) : enc (zig x) ++ l' = l := by
  simp only [rdI, Prod.mk.injEq] at h
  obtain ⟨h1, h2, h3⟩ := h
  rw [← h3, zig_zag, ← h1]
  exact rdU_canon (trip h2)
theorem rdB_canon {l l' : List UInt8} {x : Bool} (h : rdB l 0 = (l', 0, x)) : encBool x ++ l' = l := by
  cases l with
  | nil => simp [rdB] at h
  | cons c r =>
    by_cases h1 : 1 < c.toNat
    · rw [rdB_form (by simp) (by simpa using h1)] at h; simp at h
    · rw [rdB_ok (by simp) (by simpa using h1)] at h
      simp only [Prod.mk.injEq, true_and, List.drop_succ_cons, List.drop_zero, List.getElem_cons_zero] at h
      obtain ⟨rfl, rfl⟩ := h
      unfold encBool
      by_cases h2 : c.toNat = 1
      · have : c = 1 := UInt8.toNat_inj.1 (by rw [h2]; rfl)
        subst this; rfl
      · have : c = 0 := UInt8.toNat_inj.1 (by show c.toNat = 0; omega)
        subst this; rfl
theorem rdL_canon {l l' : List UInt8} {k : Nat} {most : Int} (h : rdL l 0 most = (l', 0, k)) : enc (UInt64.ofNat k) ++ l' = l := by
  by_cases h1 : (rdU l 0).2.1 = 0
  · have hr : rdU l 0 = ((rdU l 0).1, 0, (rdU l 0).2.2) := trip h1
    by_cases h2 : most < 0 ∨ most < (rdU l 0).2.2.toNat
    · rw [rdL_bad hr h2] at h; simp at h
    · rw [rdL_ok hr h2] at h
      simp only [Prod.mk.injEq, true_and] at h
      obtain ⟨rfl, rfl⟩ := h
      rw [UInt64.ofNat_toNat]
      exact rdU_canon hr
  · rw [rdL_err (u := (rdU l 0).2.2) rfl h1] at h
    simp only [Prod.mk.injEq] at h
    exact absurd h.2.1 h1
theorem rdL_fields {l : List UInt8} {e most : Int} (h : (rdL l e most).2.1 = 0) : rdL l e most = ((rdL l e most).1, 0, (rdL l e most).2.2) := trip h
theorem rdS_canon {l l' : List UInt8} {s : List UInt8} {most : Int} (h : rdS l 0 most = (l', 0, s)) : encText s ++ l' = l := by
  by_cases h1 : (rdL l 0 most).2.1 = 0
  · have hr := rdL_fields h1
    by_cases h2 : (rdL l 0 most).1.length < (rdL l 0 most).2.2
    · rw [rdS_short hr h2] at h; simp at h
    · rw [rdS_ok hr h2] at h
      simp only [Prod.mk.injEq, true_and] at h
      obtain ⟨rfl, rfl⟩ := h
      unfold encText
      rw [List.length_take, Nat.min_eq_left (by omega), List.append_assoc, List.take_append_drop]
      exact rdL_canon hr
  · rw [rdS_err (k := (rdL l 0 most).2.2) rfl h1] at h
    simp only [Prod.mk.injEq] at h
    exact absurd h.2.1 h1
theorem rdN_canon : ∀ {n : Nat} {l l' : List UInt8} {xs : List Int}, rdN n l 0 = (l', 0, xs) → encList xs ++ l' = l ∧ xs.length = n
  | 0, l, l', xs, h => by cases h; exact ⟨rfl, rfl⟩
  | n + 1, l, l', xs, h => by
    rw [rdN_next (l' := (rdI l 0).1) (e' := (rdI l 0).2.1) (x := (rdI l 0).2.2) rfl] at h
    simp only [Prod.mk.injEq] at h
    obtain ⟨h1, h2, rfl⟩ := h
    by_cases h3 : (rdI l 0).2.1 = 0
    · rw [h3] at h1 h2 ⊢
      obtain ⟨g1, g2⟩ := rdN_canon (n := n) (l := (rdI l 0).1) (l' := l') (xs := (rdN n (rdI l 0).1 0).2.2) (trip2 h2 h1)
      have g3 := rdI_canon (l := l) (l' := (rdI l 0).1) (x := (rdI l 0).2.2) (trip h3)
      refine ⟨?_, by rw [List.length_cons, g2]⟩
      have e : encList ((rdI l 0).2.2 :: (rdN n (rdI l 0).1 0).2.2) = enc (zig (rdI l 0).2.2) ++ encList (rdN n (rdI l 0).1 0).2.2 := rfl
      rw [e, List.append_assoc, g1, g3]
    · rw [rdN_err h3] at h2
      exact absurd h2 h3
theorem rdIs_canon {l l' : List UInt8} {xs : List Int} {most : Int} (h : rdIs l 0 most = (l', 0, xs)) : encInts xs ++ l' = l := by
  by_cases h1 : (rdL l 0 most).2.1 = 0
  · have hr := rdL_fields h1
    by_cases h2 : (rdN (rdL l 0 most).2.2 (rdL l 0 most).1 0).2.1 = 0
    · have hr2 : rdN (rdL l 0 most).2.2 (rdL l 0 most).1 0 = ((rdN (rdL l 0 most).2.2 (rdL l 0 most).1 0).1, 0, (rdN (rdL l 0 most).2.2 (rdL l 0 most).1 0).2.2) := trip h2
      rw [rdIs_ok hr hr2] at h
      simp only [Prod.mk.injEq, true_and] at h
      obtain ⟨h3, h4⟩ := h
      obtain ⟨g1, g2⟩ := rdN_canon hr2
      rw [h3, h4] at g1
      rw [h4] at g2
      unfold encInts
      rw [g2, List.append_assoc, g1]
      exact rdL_canon hr
    · rw [rdIs_err2 (l2 := (rdN (rdL l 0 most).2.2 (rdL l 0 most).1 0).1) (xs := (rdN (rdL l 0 most).2.2 (rdL l 0 most).1 0).2.2) hr rfl h2] at h
      simp only [Prod.mk.injEq] at h
      exact absurd h.2.1 h2
  · rw [rdIs_err (k := (rdL l 0 most).2.2) rfl h1] at h
    simp only [Prod.mk.injEq] at h
    exact absurd h.2.1 h1
end Go.Wire
