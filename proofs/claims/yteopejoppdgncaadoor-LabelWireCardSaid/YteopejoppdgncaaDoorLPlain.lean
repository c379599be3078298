/- Labels in plain Lean: numbers, letters, texts, and what a text means. -/
import Derived.Lib.ItoaNum
import GoSem.Op.String
namespace Go.Lb
open Go.Lib Go.Op

structure Lab where
  num : Int
  suf : Int
deriving DecidableEq, Inhabited
def okL (l : Lab) : Prop := 1 ≤ l.num ∧ l.num ≤ 16384 ∧ 0 ≤ l.suf ∧ l.suf ≤ 16384
instance (l : Lab) : Decidable (okL l) := by unfold okL; infer_instance
def zL : Lab := ⟨0, 0⟩
def before (a b : Lab) : Prop := a.num < b.num ∨ (a.num = b.num ∧ a.suf < b.suf)
instance (a b : Lab) : Decidable (before a b) := by unfold before; infer_instance
def checkV (l : Lab) : Int := if okL l then 0 else 5
theorem check_yes {l : Lab} (h : okL l) : checkV l = 0 := if_pos h
theorem check_no {l : Lab} (h : ¬ okL l) : checkV l = 5 := if_neg h
theorem check_ok_of {l : Lab} (h : checkV l = 0) : okL l := Decidable.byContradiction fun e => by rw [check_no e] at h; cases h
theorem check_bad_of {l : Lab} (h : checkV l ≠ 0) : ¬ okL l := fun e => h (check_yes e)
def nextV (l : Lab) : Lab × Int := if ¬ okL l then (zL, 5) else if l.suf = 16384 then (zL, 2) else (⟨l.num, l.suf + 1⟩, 0)
def cmpV (a b : Int) : Int := if a < b then -1 else if b < a then 1 else 0
def orV (a b : Int) : Int := if a ≠ 0 then a else b
theorem or_neg (a b : Int) : orV a b < 0 ↔ a < 0 ∨ (a = 0 ∧ b < 0) := by
  unfold orV; split <;> omega
theorem cmp_neg (a b : Int) : cmpV a b < 0 ↔ a < b := by
  unfold cmpV; split
  · simp; omega
  · split <;> simp <;> omega
theorem cmp_zero (a b : Int) : cmpV a b = 0 ↔ a = b := by
  unfold cmpV; split
  · simp; omega
  · split <;> simp <;> omega
theorem less_eq (a b : Lab) : (decide (a ≠ b) && decide (orV (cmpV a.num b.num) (cmpV a.suf b.suf) < 0)) = decide (before a b) := by
  rw [Bool.eq_iff_iff]
  simp only [Bool.and_eq_true, decide_eq_true_eq, or_neg, cmp_neg, cmp_zero]
  obtain ⟨x, y⟩ := a
  obtain ⟨z, w⟩ := b
  show (Lab.mk x y ≠ Lab.mk z w ∧ (x < z ∨ (x = z ∧ y < w))) ↔ (x < z ∨ (x = z ∧ y < w))
  simp only [ne_eq, Lab.mk.injEq]
  omega
theorem before_irrefl (a : Lab) : ¬ before a a := by unfold before; omega
theorem before_asymm {a b : Lab} (h : before a b) : ¬ before b a := by unfold before at *; omega
theorem before_trans {a b c : Lab} (h : before a b) (h' : before b c) : before a c := by unfold before at *; omega
theorem before_total {a b : Lab} (h : a ≠ b) (h' : ¬ before a b) : before b a := by
  obtain ⟨x, y⟩ := a
  obtain ⟨z, w⟩ := b
  simp only [ne_eq, Lab.mk.injEq] at h
  unfold before at *
  simp only at *
  omega
theorem between {a b : Lab} (h : before a b) : ¬ before b ⟨a.num, a.suf + 1⟩ := by unfold before at *; simp only; omega
theorem before_next (a : Lab) : before a ⟨a.num, a.suf + 1⟩ := .inr ⟨rfl, by simp only; omega⟩
theorem next_cases {l : Lab} (h : okL l) : (l.suf = 16384 ∧ nextV l = (zL, 2)) ∨ (l.suf < 16384 ∧ nextV l = (⟨l.num, l.suf + 1⟩, 0) ∧ okL ⟨l.num, l.suf + 1⟩) := by
  have h' := h
  obtain ⟨h1, h2, h3, h4⟩ := h'
  by_cases e : l.suf = 16384
  · exact .inl ⟨e, by rw [nextV, if_neg (fun x => x h), if_pos e]⟩
  · exact .inr ⟨by omega, by rw [nextV, if_neg (fun x => x h), if_neg e], ⟨h1, h2, by simp only; omega, by simp only; omega⟩⟩
theorem next_full {l : Lab} (h : okL l) (hs : l.suf = 16384) : nextV l = (zL, 2) := by
  rcases next_cases h with ⟨_, e⟩ | ⟨e, _⟩
  · exact e
  · omega
theorem next_more {l : Lab} (h : okL l) (hs : l.suf ≠ 16384) : nextV l = (⟨l.num, l.suf + 1⟩, 0) ∧ okL ⟨l.num, l.suf + 1⟩ := by
  rcases next_cases h with ⟨e, _⟩ | ⟨_, e⟩
  · exact absurd e hs
  · exact e
theorem head_app {a b : List UInt8} (h : a ≠ []) : (a ++ b).head? = a.head? := by
  cases a with
  | nil => exact absurd rfl h
  | cons x a => rfl
theorem mem_tw {p : UInt8 → Bool} {c : UInt8} : ∀ {l : List UInt8}, c ∈ l.takeWhile p → p c = true
  | [], h => by simp at h
  | x :: l, h => by
    cases hp : p x with
    | true =>
      rw [List.takeWhile_cons_of_pos hp] at h
      rcases List.mem_cons.1 h with e | h
      · rw [e]; exact hp
      · exact mem_tw h
    | false => rw [List.takeWhile_cons_of_neg (by simp [hp])] at h; cases h
/- 1. LETTERS -/
def letters (n : Nat) : List UInt8 := if _ : n = 0 then [] else letters ((n - 1) / 26) ++ [UInt8.ofNat (97 + (n - 1) % 26)]
  termination_by n
  decreasing_by omega
theorem letters_zero : letters 0 = [] := by rw [letters]; rfl
theorem letters_pos {n : Nat} (h : 0 < n) : letters n = letters ((n - 1) / 26) ++ [UInt8.ofNat (97 + (n - 1) % 26)] := by rw [letters, dif_neg (by omega)]
def ltr (c : UInt8) : Bool := decide (97 ≤ c.toNat) && decide (c.toNat ≤ 122)
def dig (c : UInt8) : Bool := decide (48 ≤ c.toNat) && decide (c.toNat ≤ 57)
theorem ltr_iff {c : UInt8} : ltr c = true ↔ 97 ≤ c.toNat ∧ c.toNat ≤ 122 := by simp [ltr]
theorem dig_iff {c : UInt8} : dig c = true ↔ 48 ≤ c.toNat ∧ c.toNat ≤ 57 := by simp [dig]
def lvalFrom (a : Nat) (l : List UInt8) : Nat := l.foldl (fun a c => 26 * a + (c.toNat - 97) + 1) a
def lval (l : List UInt8) : Nat := lvalFrom 0 l
theorem lval_snoc (l : List UInt8) (c : UInt8) : lval (l ++ [c]) = 26 * lval l + (c.toNat - 97) + 1 := by simp [lval, lvalFrom, List.foldl_append]
theorem toNat_ofNat {n : Nat} (h : n < 256) : (UInt8.ofNat n).toNat = n := by simp [UInt8.toNat_ofNat']; omega
theorem lval_letters (n : Nat) : lval (letters n) = n := by
  induction n using Nat.strongRecOn with
  | _ n ih =>
    by_cases h : n = 0
    · subst h; rw [letters_zero]; rfl
    · rw [letters_pos (by omega), lval_snoc, ih _ (by omega), toNat_ofNat (by omega)]
      omega
theorem letters_ltr (n : Nat) : ∀ c ∈ letters n, ltr c = true := by
  induction n using Nat.strongRecOn with
  | _ n ih =>
    by_cases h : n = 0
    · subst h; rw [letters_zero]; intro c hc; cases hc
    · rw [letters_pos (by omega)]
      intro c hc
      rcases List.mem_append.1 hc with hc | hc
      · exact ih _ (by omega) c hc
      · rw [List.mem_singleton] at hc
        subst hc
        rw [ltr_iff, toNat_ofNat (by omega)]; omega
theorem eq_of_toNat {c d : UInt8} (h : c.toNat = d.toNat) : c = d := UInt8.toNat_inj.1 h
theorem snoc_cases (l : List UInt8) : l = [] ∨ ∃ i c, l = i ++ [c] := by
  rcases List.eq_nil_or_concat l with h | ⟨i, c, h⟩
  · exact .inl h
  · exact .inr ⟨i, c, by rw [h, List.concat_eq_append]⟩
theorem letters_lval (k : Nat) : ∀ l : List UInt8, l.length = k → (∀ c ∈ l, ltr c = true) → letters (lval l) = l := by
  induction k with
  | zero => intro l hl _; obtain rfl := List.eq_nil_of_length_eq_zero hl; exact letters_zero
  | succ k ih =>
    intro l hl ha
    rcases snoc_cases l with rfl | ⟨i, c, rfl⟩
    · simp at hl
    · have hc := ltr_iff.1 (ha c (by simp))
      rw [lval_snoc, letters_pos (by omega)]
      rw [show (26 * lval i + (c.toNat - 97) + 1 - 1) / 26 = lval i from by omega, show (26 * lval i + (c.toNat - 97) + 1 - 1) % 26 = c.toNat - 97 from by omega]
      rw [ih i (by simpa using hl) (fun d hd => ha d (by simp [hd]))]
      congr 2
      apply eq_of_toNat
      rw [toNat_ofNat (by omega)]; omega
theorem letters_len3 {n : Nat} (h : n ≤ 16384) : (letters n).length ≤ 3 := by
  by_cases h0 : n = 0
  · subst h0; rw [letters_zero]; simp
  rw [letters_pos (by omega), List.length_append, List.length_singleton]
  by_cases h1 : (n - 1) / 26 = 0
  · rw [h1, letters_zero]; simp
  rw [letters_pos (by omega), List.length_append, List.length_singleton]
  by_cases h2 : ((n - 1) / 26 - 1) / 26 = 0
  · rw [h2, letters_zero]; simp
  rw [letters_pos (by omega), List.length_append, List.length_singleton]
  have h3 : (((n - 1) / 26 - 1) / 26 - 1) / 26 = 0 := by omega
  rw [h3, letters_zero]; simp

/- 2. ORDER -/
/-- Shorter, or as long and less. -/
def sooner (s t : List UInt8) : Prop := s.length < t.length ∨ (s.length = t.length ∧ bytesLess s t = true)
instance (s t : List UInt8) : Decidable (sooner s t) := by unfold sooner; infer_instance
theorem less_irrefl : ∀ s : List UInt8, bytesLess s s = false
  | [] => rfl
  | a :: s => by simp [bytesLess, less_irrefl s]
theorem less_prefix : ∀ (p s t : List UInt8), bytesLess (p ++ s) (p ++ t) = bytesLess s t
  | [], _, _ => rfl
  | a :: p, s, t => by simp [bytesLess, less_prefix p s t]
theorem less_append : ∀ (s t : List UInt8) (u v : List UInt8), s.length = t.length → bytesLess s t = true → bytesLess (s ++ u) (t ++ v) = true
  | [], [], _, _, _, h => by simp [bytesLess] at h
  | [], _ :: _, _, _, h, _ => by simp at h
  | _ :: _, [], _, _, h, _ => by simp at h
  | a :: s, b :: t, u, v, hl, h => by
    simp only [List.cons_append, bytesLess, Bool.or_eq_true, Bool.and_eq_true, decide_eq_true_eq, beq_iff_eq] at h ⊢
    rcases h with h | ⟨h, h'⟩
    · exact .inl h
    · exact .inr ⟨h, less_append s t u v (by simpa using hl) h'⟩
theorem letters_sooner : ∀ (m n : Nat), n < m → sooner (letters n) (letters m) := by
  intro m
  induction m using Nat.strongRecOn with
  | _ m ih =>
    intro n h
    rw [letters_pos (n := m) (by omega)]
    by_cases h0 : n = 0
    · subst h0; rw [letters_zero]; left; simp
    rw [letters_pos (n := n) (by omega)]
    by_cases he : (n - 1) / 26 = (m - 1) / 26
    · right
      refine ⟨by simp [he], ?_⟩
      rw [he, less_prefix]
      have h1 : (UInt8.ofNat (97 + (n - 1) % 26)).toNat = 97 + (n - 1) % 26 := toNat_ofNat (by omega)
      have h2 : (UInt8.ofNat (97 + (m - 1) % 26)).toNat = 97 + (m - 1) % 26 := toNat_ofNat (by omega)
      have : UInt8.ofNat (97 + (n - 1) % 26) < UInt8.ofNat (97 + (m - 1) % 26) := UInt8.lt_iff_toNat_lt.2 (by omega)
      rw [bytesLess, decide_eq_true this, Bool.true_or]
    · rcases ih ((m - 1) / 26) (by omega) ((n - 1) / 26) (by omega) with h | ⟨h, h'⟩
      · left; simp; omega
      · right
        exact ⟨by simp [h], less_append _ _ _ _ h h'⟩
theorem sooner_prefix {p s t : List UInt8} : sooner (p ++ s) (p ++ t) ↔ sooner s t := by
  unfold sooner
  rw [less_prefix, List.length_append, List.length_append]
  constructor
  · rintro (h | ⟨h, h'⟩)
    · exact .inl (by omega)
    · exact .inr ⟨by omega, h'⟩
  · rintro (h | ⟨h, h'⟩)
    · exact .inl (by omega)
    · exact .inr ⟨by omega, h'⟩
theorem less_asymm : ∀ (s t : List UInt8), bytesLess s t = true → bytesLess t s = false
  | _, [], h => by cases ‹List UInt8› <;> simp [bytesLess] at h
  | [], _ :: _, _ => by simp [bytesLess]
  | a :: s, b :: t, h => by
    simp only [bytesLess, Bool.or_eq_true, Bool.and_eq_true, decide_eq_true_eq, beq_iff_eq] at h
    simp only [bytesLess, Bool.or_eq_false_iff, Bool.and_eq_false_imp, decide_eq_false_iff_not, beq_iff_eq]
    rcases h with h | ⟨h, h'⟩
    · refine ⟨fun h2 => ?_, fun e => ?_⟩
      · have := UInt8.lt_iff_toNat_lt.1 h; have := UInt8.lt_iff_toNat_lt.1 h2; omega
      · subst e; have := UInt8.lt_iff_toNat_lt.1 h; omega
    · subst h
      exact ⟨fun h2 => by have := UInt8.lt_iff_toNat_lt.1 h2; omega, fun _ => less_asymm s t h'⟩
theorem sooner_asymm {s t : List UInt8} (h : sooner s t) : ¬ sooner t s := by
  rintro (h2 | ⟨h2, h3⟩)
  · rcases h with h | ⟨h, _⟩ <;> omega
  · rcases h with h | ⟨_, h4⟩
    · omega
    · rw [less_asymm _ _ h4] at h3; cases h3
theorem sooner_irrefl (s : List UInt8) : ¬ sooner s s := fun h => sooner_asymm h h

/- 3. NUMBERS -/
def nval (l : List UInt8) : Nat := l.foldl (fun a c => 10 * a + (c.toNat - 48)) 0
theorem nval_snoc (l : List UInt8) (c : UInt8) : nval (l ++ [c]) = 10 * nval l + (c.toNat - 48) := by simp [nval, List.foldl_append]
theorem nval_dec (n : Nat) : nval (decDigits n) = n := by
  induction n using Nat.strongRecOn with
  | _ n ih =>
    by_cases h : n < 10
    · rw [decDigits, dif_pos h]
      simp only [nval, List.foldl_cons, List.foldl_nil]
      rw [toNat_ofNat (by omega)]; omega
    · rw [decDigits, dif_neg h, nval_snoc, ih _ (by omega), toNat_ofNat (by omega)]
      omega
theorem dec_dig (n : Nat) : ∀ c ∈ decDigits n, dig c = true := by
  induction n using Nat.strongRecOn with
  | _ n ih =>
    intro c hc
    by_cases h : n < 10
    · rw [decDigits, dif_pos h, List.mem_singleton] at hc
      subst hc
      rw [dig_iff, toNat_ofNat (by omega)]; omega
    · rw [decDigits, dif_neg h] at hc
      rcases List.mem_append.1 hc with hc | hc
      · exact ih _ (by omega) c hc
      · rw [List.mem_singleton] at hc
        subst hc
        rw [dig_iff, toNat_ofNat (by omega)]; omega
theorem dec_ne (n : Nat) : decDigits n ≠ [] := by
  rw [decDigits]; split <;> simp
theorem dec_head {n : Nat} (h0 : 0 < n) : (decDigits n).head? ≠ some 48 := by
  induction n using Nat.strongRecOn with
  | _ n ih =>
    by_cases h : n < 10
    · rw [decDigits, dif_pos h]
      simp only [List.head?_cons, ne_eq, Option.some.injEq]
      intro e
      have := congrArg UInt8.toNat e
      rw [toNat_ofNat (by omega)] at this
      simp at this; omega
    · rw [decDigits, dif_neg h, head_app (dec_ne _)]
      exact ih _ (by omega) (by omega)
theorem ndig_le (u : Nat) : nDigits u ≤ u + 1 := by
  induction u using Nat.strongRecOn with
  | _ u ih =>
    by_cases h : u < 10
    · rw [nDigits_small h]; omega
    · rw [nDigits_big h]
      have := ih (u / 10) (by omega)
      omega
theorem dec_len5 {n : Nat} (h : n ≤ 16384) : (decDigits n).length ≤ 5 := by
  rw [decDigits_length]
  have : nDigits n ≤ 5 := by
    rcases Nat.lt_or_ge n 10000 with h2 | h2
    · rcases Nat.lt_or_ge n 10 with h3 | h3
      · rw [nDigits_small h3]; omega
      rw [nDigits_big (by omega)]
      rcases Nat.lt_or_ge (n / 10) 10 with h4 | h4
      · rw [nDigits_small h4]; omega
      rw [nDigits_big (by omega)]
      rcases Nat.lt_or_ge (n / 10 / 10) 10 with h5 | h5
      · rw [nDigits_small h5]; omega
      rw [nDigits_big (by omega), nDigits_small (by omega)]; omega
    · rw [nDigits_unique 4 n (by omega) (by omega)]; omega
  exact this
theorem dec_val (k : Nat) : ∀ l : List UInt8, l.length = k → l ≠ [] → (∀ c ∈ l, dig c = true) → l.head? ≠ some 48 → decDigits (nval l) = l ∧ 0 < nval l := by
  induction k with
  | zero => intro l hl h; exact absurd (List.eq_nil_of_length_eq_zero hl) h
  | succ k ih =>
    intro l hl _ ha hh
    rcases snoc_cases l with rfl | ⟨i, c, rfl⟩
    · simp at hl
    · have hc := dig_iff.1 (ha c (by simp))
      rw [nval_snoc]
      by_cases hi : i = []
      · subst hi
        have h0 : c.toNat ≠ 48 := fun e => hh (by
          simp only [List.nil_append, List.head?_cons, Option.some.injEq]
          exact eq_of_toNat (by rw [e]; rfl))
        have hz : nval ([] : List UInt8) = 0 := rfl
        rw [hz]
        refine ⟨?_, by omega⟩
        rw [decDigits, dif_pos (by omega)]
        simp only [List.nil_append, List.cons.injEq, and_true]
        apply eq_of_toNat
        rw [toNat_ofNat (by omega)]; omega
      · obtain ⟨h1, h2⟩ := ih i (by simpa using hl) hi (fun d hd => ha d (by simp [hd])) (by rwa [head_app hi] at hh)
        refine ⟨?_, by omega⟩
        rw [decDigits, dif_neg (by omega), show (10 * nval i + (c.toNat - 48)) / 10 = nval i from by omega, show (10 * nval i + (c.toNat - 48)) % 10 = c.toNat - 48 from by omega, h1]
        congr 2
        apply eq_of_toNat
        rw [toNat_ofNat (by omega)]; omega

/- 4. TEXTS -/
def textV (l : Lab) : List UInt8 := if okL l then decDigits l.num.toNat ++ letters l.suf.toNat else []
theorem textV_ok {l : Lab} (h : okL l) : textV l = decDigits l.num.toNat ++ letters l.suf.toNat := if_pos h
theorem text_len {l : Lab} : (textV l).length ≤ 8 := by
  unfold textV
  split
  · rename_i h
    obtain ⟨h1, h2, h3, h4⟩ := h
    have := dec_len5 (n := l.num.toNat) (by omega)
    have := letters_len3 (n := l.suf.toNat) (by omega)
    rw [List.length_append]; omega
  · simp
theorem text_ne {l : Lab} (h : okL l) : textV l ≠ [] := by
  rw [textV_ok h]; simp [dec_ne]
/-- The label that a text stands for, and the error: 4 ErrForm, 1 ErrRange. -/
def badForm (s : List UInt8) : Prop := s.takeWhile dig = [] ∨ 5 < (s.takeWhile dig).length ∨ s.head? = some 48 ∨ 4 < (s.dropWhile dig).length ∨ (s.dropWhile dig).all ltr = false
instance (s : List UInt8) : Decidable (badForm s) := by unfold badForm; infer_instance
def labV (s : List UInt8) : Lab := ⟨nval (s.takeWhile dig), lval (s.dropWhile dig)⟩
def parseV (eF eR : Int) (s : List UInt8) : Lab × Int := if badForm s then (zL, eF) else if okL (labV s) then (labV s, 0) else (zL, eR)
theorem tw_all {d t : List UInt8} (h : ∀ c ∈ d, dig c = true) : (d ++ t).takeWhile dig = d ++ t.takeWhile dig := List.takeWhile_append_of_pos h
theorem dw_all {d t : List UInt8} (h : ∀ c ∈ d, dig c = true) : (d ++ t).dropWhile dig = t.dropWhile dig := List.dropWhile_append_of_pos h
theorem ltr_not_dig {c : UInt8} (h : ltr c = true) : dig c = false := by
  have := ltr_iff.1 h
  cases hd : dig c with
  | false => rfl
  | true => have := dig_iff.1 hd; omega
theorem tw_none {t : List UInt8} (h : ∀ c, t.head? = some c → dig c = false) : t.takeWhile dig = [] ∧ t.dropWhile dig = t := by
  cases t with
  | nil => exact ⟨rfl, rfl⟩
  | cons a t => have := h a rfl; simp [List.takeWhile, List.dropWhile, this]
theorem split_text {d r : List UInt8} (hd : ∀ c ∈ d, dig c = true) (hr : ∀ c ∈ r, ltr c = true) : (d ++ r).takeWhile dig = d ∧ (d ++ r).dropWhile dig = r := by
  have h := tw_none (t := r) (fun c hc => ltr_not_dig (hr c (List.mem_of_mem_head? hc)))
  rw [tw_all hd, dw_all hd, h.1, h.2]; simp
theorem parse_good {eF eR : Int} {d r : List UInt8} (hd : ∀ c ∈ d, dig c = true) (hr : ∀ c ∈ r, ltr c = true) (h0 : d ≠ []) (h5 : d.length ≤ 5) (h4 : r.length ≤ 4) (hh : d.head? ≠ some 48) :
    parseV eF eR (d ++ r) = if okL ⟨nval d, lval r⟩ then (⟨nval d, lval r⟩, 0) else (zL, eR) := by
  obtain ⟨e1, e2⟩ := split_text hd hr
  have hb : ¬ badForm (d ++ r) := by
    unfold badForm
    rw [e1, e2, head_app h0]
    rintro (h | h | h | h | h)
    · exact h0 h
    · omega
    · exact hh h
    · omega
    · rw [List.all_eq_true.2 (fun c hc => hr c hc)] at h; cases h
  rw [parseV, if_neg hb, labV, e1, e2]
theorem parse_text {eF eR : Int} {l : Lab} (h : okL l) : parseV eF eR (textV l) = (l, 0) := by
  have h' := h
  obtain ⟨h1, h2, h3, h4⟩ := h'
  rw [textV_ok h, parse_good (dec_dig _) (letters_ltr _) (dec_ne _) (dec_len5 (by omega)) (by have := letters_len3 (n := l.suf.toNat) (by omega); omega) (dec_head (by omega)), nval_dec, lval_letters]
  have e : (⟨(l.num.toNat : Int), (l.suf.toNat : Int)⟩ : Lab) = l := by
    obtain ⟨a, b⟩ := l
    simp only [Lab.mk.injEq]
    simp only at h1 h3
    omega
  rw [e, if_pos h]
theorem text_parse {eF eR : Int} (hF : eF ≠ 0) (hR : eR ≠ 0) {s : List UInt8} (h : (parseV eF eR s).2 = 0) : okL (parseV eF eR s).1 ∧ textV (parseV eF eR s).1 = s := by
  unfold parseV at h ⊢
  by_cases hb : badForm s
  · rw [if_pos hb] at h; exact absurd h hF
  rw [if_neg hb] at h ⊢
  by_cases hk : okL (labV s)
  · rw [if_pos hk]
    refine ⟨hk, ?_⟩
    rw [textV_ok hk]
    unfold badForm at hb
    have h1 := fun e => hb (.inl e)
    have h3 : ¬ s.head? = some 48 := fun e => hb (.inr (.inr (.inl e)))
    have h5 : (s.dropWhile dig).all ltr = true := by
      cases e : (s.dropWhile dig).all ltr with
      | true => rfl
      | false => exact absurd (.inr (.inr (.inr (.inr e)))) hb
    have hd : ∀ c ∈ s.takeWhile dig, dig c = true := fun c hc => mem_tw hc
    have hs : s = s.takeWhile dig ++ s.dropWhile dig := List.takeWhile_append_dropWhile.symm
    have hh : (s.takeWhile dig).head? ≠ some 48 := by
      intro e
      apply h3
      rw [hs, head_app h1]; exact e
    have a := dec_val _ _ rfl h1 hd hh
    have b := letters_lval _ _ rfl (fun c hc => List.all_eq_true.1 h5 c hc)
    show decDigits (Int.toNat (nval (s.takeWhile dig) : Nat)) ++ letters (Int.toNat (lval (s.dropWhile dig) : Nat)) = s
    rw [Int.toNat_natCast, Int.toNat_natCast, a.1, b]
    exact hs.symm
  · rw [if_neg hk] at h; exact absurd h hR
theorem text_inj {a b : Lab} (ha : okL a) (hb : okL b) (h : textV a = textV b) : a = b := by
  have h1 := parse_text (eF := 1) (eR := 1) ha
  have h2 := parse_text (eF := 1) (eR := 1) hb
  rw [h, h2] at h1
  exact (congrArg Prod.fst h1).symm
theorem parse_bad {eF eR : Int} (s : List UInt8) : (parseV eF eR s).2 = 0 ∨ ((parseV eF eR s).1 = zL ∧ ((parseV eF eR s).2 = eF ∨ (parseV eF eR s).2 = eR)) := by
  unfold parseV
  split
  · exact .inr ⟨rfl, .inl rfl⟩
  · split
    · exact .inl rfl
    · exact .inr ⟨rfl, .inr rfl⟩
theorem texts_order {N : Int} {p q : Int} (ha : okL ⟨N, p⟩) (hb : okL ⟨N, q⟩) : p < q ↔ sooner (textV ⟨N, p⟩) (textV ⟨N, q⟩) := by
  rw [textV_ok ha, textV_ok hb, sooner_prefix]
  obtain ⟨_, _, a3, _⟩ := ha
  obtain ⟨_, _, b3, _⟩ := hb
  show _ ↔ sooner (letters p.toNat) (letters q.toNat)
  simp only at a3 b3
  constructor
  · intro h; exact letters_sooner _ _ (by omega)
  · intro h
    rcases Nat.lt_trichotomy p.toNat q.toNat with h2 | h2 | h2
    · omega
    · rw [h2] at h; exact absurd h (sooner_irrefl _)
    · exact absurd h (sooner_asymm (letters_sooner _ _ h2))

/- 5. READING, BYTE BY BYTE -/
/-- The first k bytes are digits d and letters r, as they may be. -/
structure Pre (s : List UInt8) (k : Nat) (d r : List UInt8) : Prop where
  eq : s.take k = d ++ r
  le : k ≤ s.length
  dg : ∀ c ∈ d, dig c = true
  lt : ∀ c ∈ r, ltr c = true
  d5 : d.length ≤ 5
  r4 : r.length ≤ 4
  no : d = [] → r = []
  hd : d.head? ≠ some 48
theorem Pre.nil (s : List UInt8) : Pre s 0 [] [] := ⟨by simp, by simp, by simp, by simp, by simp, by simp, fun _ => rfl, by simp⟩
theorem Pre.len {s : List UInt8} {k : Nat} {d r : List UInt8} (h : Pre s k d r) : d.length + r.length = k := by
  have := congrArg List.length h.eq
  rw [List.length_take, List.length_append] at this
  have := h.le
  omega
theorem Pre.split {s : List UInt8} {k : Nat} {d r : List UInt8} (h : Pre s k d r) : s = d ++ (r ++ s.drop k) := by
  rw [← List.append_assoc, ← h.eq, List.take_append_drop]
theorem Pre.sd {s : List UInt8} {k : Nat} {d : List UInt8} {c : UInt8} (h : Pre s k d []) (hc : s[k]? = some c) (hd : dig c = true) (h5 : d.length < 5) (h0 : 0 < k ∨ c.toNat ≠ 48) : Pre s (k + 1) (d ++ [c]) [] := by
  have hk := (List.getElem?_eq_some_iff.1 hc).1
  refine ⟨?_, by omega, fun x hx => ?_, by simp, by simp; omega, by simp, fun e => rfl, ?_⟩
  · rw [List.take_add_one, hc, h.eq]; simp
  · rcases List.mem_append.1 hx with hx | hx
    · exact h.dg x hx
    · rw [List.mem_singleton] at hx; subst hx; exact hd
  · by_cases hn : d = []
    · subst hn
      have hl := h.len
      simp at hl
      rcases h0 with h0 | h0
      · omega
      · simp only [List.nil_append, List.head?_cons, ne_eq, Option.some.injEq]
        intro e; subst e; exact h0 rfl
    · rw [head_app hn]; exact h.hd
theorem Pre.sl {s : List UInt8} {k : Nat} {d r : List UInt8} {c : UInt8} (h : Pre s k d r) (hc : s[k]? = some c) (hd : ltr c = true) (h4 : r.length < 4) (h0 : d ≠ []) : Pre s (k + 1) d (r ++ [c]) := by
  have hk := (List.getElem?_eq_some_iff.1 hc).1
  refine ⟨?_, by omega, h.dg, fun x hx => ?_, h.d5, by simp; omega, fun e => absurd e h0, h.hd⟩
  · rw [List.take_add_one, hc, h.eq]; simp
  · rcases List.mem_append.1 hx with hx | hx
    · exact h.lt x hx
    · rw [List.mem_singleton] at hx; subst hx; exact hd
theorem drop_at {s : List UInt8} {k : Nat} {c : UInt8} (hc : s[k]? = some c) : s.drop k = c :: s.drop (k + 1) := by
  obtain ⟨hk, e⟩ := List.getElem?_eq_some_iff.1 hc
  rw [List.drop_eq_getElem_cons hk, e]
/-- A byte that may not stand there. -/
theorem Pre.bad {s : List UInt8} {k : Nat} {d r : List UInt8} {c : UInt8} (h : Pre s k d r) (hc : s[k]? = some c)
    (hd : dig c = true → r ≠ [] ∨ 5 ≤ d.length ∨ (k = 0 ∧ c.toNat = 48)) (hl : ltr c = true → d = [] ∨ 4 ≤ r.length) : badForm s := by
  have hs := h.split
  rw [drop_at hc] at hs
  by_cases hr : r = []
  · subst hr
    rw [List.nil_append] at hs
    have hlen := h.len
    simp only [List.length_nil, Nat.add_zero] at hlen
    cases hdc : Lb.dig c with
    | true =>
      rcases hd hdc with h1 | h1 | ⟨h1, h2⟩
      · exact absurd rfl h1
      · right; left
        rw [hs, tw_all h.dg, List.length_append]
        simp [List.takeWhile, hdc]; omega
      · right; right; left
        have : d = [] := List.eq_nil_of_length_eq_zero (by omega)
        subst this
        rw [hs]
        simp only [List.nil_append, List.head?_cons, Option.some.injEq]
        exact eq_of_toNat h2
    | false =>
      cases hlc : Lb.ltr c with
      | true =>
        rcases hl hlc with h1 | h1
        · left
          subst h1
          rw [hs]
          simp [hdc]
        · simp at h1
      | false =>
        right; right; right; right
        rw [hs, dw_all h.dg]
        simp [List.dropWhile, hdc, hlc]
  · obtain ⟨x, r', rfl⟩ := List.exists_cons_of_ne_nil hr
    have hx : Lb.dig x = false := ltr_not_dig (h.lt x (by simp))
    have hdw : s.dropWhile Lb.dig = (x :: r') ++ c :: s.drop (k + 1) := by
      rw [congrArg (List.dropWhile Lb.dig) hs, dw_all h.dg, List.cons_append]
      simp only [List.dropWhile, hx]
    cases hlc : Lb.ltr c with
    | true =>
      rcases hl hlc with h1 | h1
      · exact absurd (h.no h1) hr
      · right; right; right; left
        rw [hdw]; simp at h1 ⊢; omega
    | false =>
      right; right; right; right
      rw [hdw, List.all_append]
      simp [hlc]
theorem Pre.none {s : List UInt8} {k : Nat} {r : List UInt8} (h : Pre s k [] r) (hk : k = s.length) : badForm s := by
  have hr := h.no rfl
  subst hr
  have hl := h.len
  simp at hl
  have : s = [] := List.eq_nil_of_length_eq_zero (by omega)
  subst this
  left; rfl
theorem Pre.all {eF eR : Int} {s : List UInt8} {k : Nat} {d r : List UInt8} (h : Pre s k d r) (hk : k = s.length) (h0 : d ≠ []) : parseV eF eR s = if okL ⟨nval d, lval r⟩ then (⟨nval d, lval r⟩, 0) else (zL, eR) := by
  have e := h.eq
  rw [hk, List.take_length] at e
  rw [e]
  exact parse_good h.dg h.lt h0 h.d5 h.r4 h.hd
theorem Pre.bad' {s : List UInt8} {k : Nat} {d r : List UInt8} {c : UInt8} (h : Pre s k d r) (hc : s[k]? = some c)
    (hd : 48 ≤ c.toNat → c.toNat ≤ 57 → 0 < r.length ∨ 5 ≤ d.length ∨ (k = 0 ∧ c.toNat = 48)) (hl : 97 ≤ c.toNat → c.toNat ≤ 122 → d.length = 0 ∨ 4 ≤ r.length) : badForm s := by
  refine h.bad hc (fun e => ?_) (fun e => ?_)
  · obtain ⟨e1, e2⟩ := dig_iff.1 e
    rcases hd e1 e2 with x | x
    · exact .inl (fun y => by rw [y] at x; simp at x)
    · exact .inr x
  · obtain ⟨e1, e2⟩ := ltr_iff.1 e
    rcases hl e1 e2 with x | x
    · exact .inl (List.eq_nil_of_length_eq_zero x)
    · exact .inr x
theorem tw_at {s : List UInt8} {j : Nat} (h : ∀ c ∈ s.take j, Lb.dig c = true) (hn : ∀ c, s[j]? = some c → Lb.dig c = false) : s.takeWhile Lb.dig = s.take j ∧ s.dropWhile Lb.dig = s.drop j := by
  have e : s = s.take j ++ s.drop j := (List.take_append_drop j s).symm
  have h2 := tw_none (t := s.drop j) (fun c hc => hn c (by rw [List.head?_drop] at hc; exact hc))
  constructor
  · rw [congrArg (List.takeWhile Lb.dig) e, tw_all h, h2.1, List.append_nil]
  · rw [congrArg (List.dropWhile Lb.dig) e, dw_all h, h2.2]
theorem take_step {p : UInt8 → Bool} {s : List UInt8} {j : Nat} (h : ∀ c ∈ s.take j, p c = true) {c : UInt8} (hc : s[j]? = some c) (hp : p c = true) : ∀ c ∈ s.take (j + 1), p c = true := fun x hx => by
  rw [List.take_add_one, hc] at hx
  rcases List.mem_append.1 hx with hx | hx
  · exact h x hx
  · simp at hx; subst hx; exact hp
theorem bad_ref {s : List UInt8} {j : Nat} (hj : j ≤ s.length) (e1 : s.takeWhile Lb.dig = s.take j) (e2 : s.dropWhile Lb.dig = s.drop j) (h : j < 1 ∨ 5 < j ∨ s.head? = some 48 ∨ 4 < s.length - j) : badForm s := by
  have hl : (s.take j).length = j := by rw [List.length_take]; omega
  unfold badForm
  rw [e1, e2, hl, List.length_drop]
  rcases h with h | h | h | h
  · left; exact List.eq_nil_of_length_eq_zero (by omega)
  · exact .inr (.inl h)
  · exact .inr (.inr (.inl h))
  · exact .inr (.inr (.inr (.inl h)))
theorem bad_ltr {s : List UInt8} {j p : Nat} {c : UInt8} (e2 : s.dropWhile Lb.dig = s.drop j) (hc : (s.drop j)[p]? = some c) (h : Lb.ltr c = false) : badForm s := by
  right; right; right; right
  rw [e2]
  cases ha : (s.drop j).all Lb.ltr with
  | false => rfl
  | true =>
    have := List.all_eq_true.1 ha c (List.mem_of_getElem? hc)
    rw [h] at this; cases this
theorem good_ref {eF eR : Int} {s : List UInt8} {j : Nat} (hj : 1 ≤ j) (hj2 : j ≤ s.length) (h : ∀ c ∈ s.take j, Lb.dig c = true) (hr : ∀ c ∈ s.drop j, Lb.ltr c = true) (h5 : j ≤ 5) (h4 : s.length - j ≤ 4) (hh : s.head? ≠ some 48) :
    parseV eF eR s = if okL ⟨nval (s.take j), lval (s.drop j)⟩ then (⟨nval (s.take j), lval (s.drop j)⟩, 0) else (zL, eR) := by
  have hl : (s.take j).length = j := by rw [List.length_take]; omega
  have hne : s.take j ≠ [] := fun e => by rw [e] at hl; simp at hl; omega
  have e : s = s.take j ++ s.drop j := (List.take_append_drop j s).symm
  have hhd : (s.take j).head? ≠ some 48 := fun x => hh (by rw [e, head_app hne]; exact x)
  have := parse_good (eF := eF) (eR := eR) h hr hne (by omega) (by rw [List.length_drop]; omega) hhd
  rw [← e] at this
  exact this
theorem nval_lt (d : List UInt8) (h : ∀ c ∈ d, dig c = true) : nval d < 10 ^ d.length := by
  have key : ∀ k (d : List UInt8), d.length = k → (∀ c ∈ d, dig c = true) → nval d < 10 ^ k := by
    intro k
    induction k with
    | zero => intro d hd _; obtain rfl := List.eq_nil_of_length_eq_zero hd; decide
    | succ k ih =>
      intro d hd ha
      rcases snoc_cases d with rfl | ⟨i, c, rfl⟩
      · simp at hd
      · have := ih i (by simpa using hd) (fun x hx => ha x (by simp [hx]))
        have hc := dig_iff.1 (ha c (by simp))
        rw [nval_snoc, Nat.pow_succ]; omega
  exact key _ d rfl h
theorem lval_lt (d : List UInt8) (h : ∀ c ∈ d, ltr c = true) : lval d < 27 ^ d.length := by
  have key : ∀ k (d : List UInt8), d.length = k → (∀ c ∈ d, ltr c = true) → lval d < 27 ^ k := by
    intro k
    induction k with
    | zero => intro d hd _; obtain rfl := List.eq_nil_of_length_eq_zero hd; decide
    | succ k ih =>
      intro d hd ha
      rcases snoc_cases d with rfl | ⟨i, c, rfl⟩
      · simp at hd
      · have := ih i (by simpa using hd) (fun x hx => ha x (by simp [hx]))
        have hc := ltr_iff.1 (ha c (by simp))
        rw [lval_snoc, Nat.pow_succ]; omega
  exact key _ d rfl h
theorem nval5 {d : List UInt8} (h : ∀ c ∈ d, dig c = true) (h5 : d.length ≤ 5) : nval d < 100000 :=
  Nat.lt_of_lt_of_le (nval_lt d h) (show 10 ^ d.length ≤ 10 ^ 5 from Nat.pow_le_pow_right (by decide) h5)
theorem lval4 {d : List UInt8} (h : ∀ c ∈ d, ltr c = true) (h5 : d.length ≤ 4) : lval d < 531441 :=
  Nat.lt_of_lt_of_le (lval_lt d h) (show 27 ^ d.length ≤ 27 ^ 4 from Nat.pow_le_pow_right (by decide) h5)
def digs : List UInt8 := [48, 49, 50, 51, 52, 53, 54, 55, 56, 57]
def abc : List UInt8 := [97, 98, 99, 100, 101, 102, 103, 104, 105, 106, 107, 108, 109, 110, 111, 112, 113, 114, 115, 116, 117, 118, 119, 120, 121, 122]
theorem digs_piece {d : Nat} (h : d < 10) : (digs.drop d).take (d + 1 - d) = [UInt8.ofNat (48 + d)] := by
  have : ∀ d < 10, (digs.drop d).take (d + 1 - d) = [UInt8.ofNat (48 + d)] := by decide
  exact this d h
theorem abc_piece {d : Nat} (h : d < 26) : (abc.drop d).take (d + 1 - d) = [UInt8.ofNat (97 + d)] := by
  have : ∀ d < 26, (abc.drop d).take (d + 1 - d) = [UInt8.ofNat (97 + d)] := by decide
  exact this d h
/-- While a number's digits are laid. -/
def Dgo (D : List UInt8) (k : Nat) (s : List UInt8) : Prop := (0 < k ∧ decDigits k ++ s = D) ∨ (k = 0 ∧ s = D)
theorem Dgo.step {D s : List UInt8} {k : Nat} (h : Dgo D k s) (hk : 0 < k) : Dgo D (k / 10) ([UInt8.ofNat (48 + k % 10)] ++ s) := by
  rcases h with ⟨_, h⟩ | ⟨h, _⟩
  · by_cases h10 : k < 10
    · right
      rw [decDigits, dif_pos h10] at h
      exact ⟨by omega, by rw [Nat.mod_eq_of_lt h10]; exact h⟩
    · left
      rw [decDigits, dif_neg h10, List.append_assoc] at h
      exact ⟨by omega, h⟩
  · omega
theorem Dgo.len {D s : List UInt8} {k : Nat} (h : Dgo D k s) : s.length ≤ D.length := by
  rcases h with ⟨_, h⟩ | ⟨_, h⟩
  · rw [← h, List.length_append]; omega
  · rw [h]; exact Nat.le_refl _
theorem lgo_step {D s : List UInt8} {n : Nat} (h : letters n ++ s = D) (hn : 0 < n) : letters ((n - 1) / 26) ++ ([UInt8.ofNat (97 + (n - 1) % 26)] ++ s) = D := by
  rw [letters_pos hn, List.append_assoc] at h; exact h
theorem lgo_len {D s : List UInt8} {n : Nat} (h : letters n ++ s = D) : s.length ≤ D.length := by
  rw [← h, List.length_append]; omega
theorem sooner_eq {s t : List UInt8} (h : s.length = t.length) : decide (sooner s t) = bytesLess s t := by
  rw [Bool.eq_iff_iff, decide_eq_true_eq]
  constructor
  · rintro (h2 | ⟨_, h2⟩)
    · omega
    · exact h2
  · exact fun h2 => .inr ⟨h, h2⟩
theorem sooner_gt {s t : List UInt8} (h : ¬ s.length < t.length) (h' : ¬ s.length = t.length) : decide (sooner s t) = false :=
  decide_eq_false (by rintro (e | ⟨e, _⟩); (· exact h e); (· exact h' e))
theorem before_text {a b : Lab} (ha : okL a) (hb : okL b) (h : a.num = b.num) : decide (before a b) = decide (sooner (textV a) (textV b)) := by
  obtain ⟨N, p⟩ := a
  obtain ⟨N', q⟩ := b
  obtain rfl : N = N' := h
  rw [Bool.eq_iff_iff, decide_eq_true_eq, decide_eq_true_eq, ← texts_order ha hb]
  unfold before
  show (N < N ∨ (N = N ∧ p < q)) ↔ p < q
  omega
end Go.Lb
