/- Proofs of inclusion and of extension, in plain Lean: as the program takes them, and as the reference does. -/
import Derived.Test.YtcbloadpffjkiaaDoorMPlain
namespace Go.Mk
open Go.Wk Go.Sha
def zero32 : Hs := List.replicate 32 0
theorem zero32_len : zero32.length = 32 := by decide
/-- What is left of a path, and whether more was taken than it had. -/
structure Tk where
  left : Nat
  miss : Bool
def takeV (p : List Hs) (t : Tk) : Hs × Tk := if t.left = 0 then (zero32, ⟨0, true⟩) else (p.getD (t.left - 1) [], ⟨t.left - 1, t.miss⟩)
def doneV (t : Tk) : Bool := decide (t.left = 0) && !t.miss
theorem take_zero {p : List Hs} {t : Tk} (h : t.left = 0) : takeV p t = (zero32, ⟨0, true⟩) := if_pos h
theorem take_pos {p : List Hs} {t : Tk} (h : t.left ≠ 0) : takeV p t = (p.getD (t.left - 1) [], ⟨t.left - 1, t.miss⟩) := if_neg h
theorem take_left (p : List Hs) (t : Tk) : (takeV p t).2.left ≤ t.left := by
  by_cases h : t.left = 0
  · rw [take_zero h]; exact Nat.zero_le _
  · rw [take_pos h]; exact Nat.sub_le _ _
theorem take_len {p : List Hs} {t : Tk} (h : ∀ x ∈ p, x.length = 32) (hl : t.left ≤ p.length) : (takeV p t).1.length = 32 := by
  by_cases h0 : t.left = 0
  · rw [take_zero h0]; exact zero32_len
  · rw [take_pos h0]
    show (p.getD (t.left - 1) []).length = 32
    rw [List.getD_eq_getElem?_getD, List.getElem?_eq_getElem (by omega)]
    exact h _ (List.getElem_mem _)

/- INCLUSION -/
def climbV (leaf : Hs) (p : List Hs) (n i : Nat) (t : Tk) : Hs × Tk := if n < 2 then (leaf, t) else if i < spl n then (node (climbV leaf p (spl n) i (takeV p t).2).1 (takeV p t).1, (climbV leaf p (spl n) i (takeV p t).2).2) else (node (takeV p t).1 (climbV leaf p (n - spl n) (i - spl n) (takeV p t).2).1, (climbV leaf p (n - spl n) (i - spl n) (takeV p t).2).2)
termination_by n
decreasing_by
  all_goals (have h1 := spl_lt (n := n) (by omega); have h2 := spl_pos n; omega)
theorem climb_one {leaf : Hs} {p : List Hs} {n i : Nat} {t : Tk} (h : n < 2) : climbV leaf p n i t = (leaf, t) := by rw [climbV, if_pos h]
theorem climb_lo {leaf : Hs} {p : List Hs} {n i : Nat} {t : Tk} (h : ¬ n < 2) (hi : i < spl n) : climbV leaf p n i t = (node (climbV leaf p (spl n) i (takeV p t).2).1 (takeV p t).1, (climbV leaf p (spl n) i (takeV p t).2).2) := by rw [climbV, if_neg h, if_pos hi]
theorem climb_hi {leaf : Hs} {p : List Hs} {n i : Nat} {t : Tk} (h : ¬ n < 2) (hi : ¬ i < spl n) : climbV leaf p n i t = (node (takeV p t).1 (climbV leaf p (n - spl n) (i - spl n) (takeV p t).2).1, (climbV leaf p (n - spl n) (i - spl n) (takeV p t).2).2) := by rw [climbV, if_neg h, if_neg hi]
theorem climb_len {leaf : Hs} {p : List Hs} {n i : Nat} {t : Tk} (h : leaf.length = 32) : (climbV leaf p n i t).1.length = 32 := by
  by_cases h2 : n < 2
  · rw [climb_one h2]; exact h
  · by_cases hi : i < spl n
    · rw [climb_lo h2 hi]; exact node_length _ _
    · rw [climb_hi h2 hi]; exact node_length _ _
/-- The reference. -/
def rclimbV (leaf : Hs) (n i : Nat) (p : List Hs) : Hs × Bool := if n < 2 then (leaf, decide (p.length = 0)) else if p.length = 0 then (zero32, false) else if i < spl n then (node (rclimbV leaf (spl n) i (p.take (p.length - 1))).1 (p.getD (p.length - 1) []), (rclimbV leaf (spl n) i (p.take (p.length - 1))).2) else (node (p.getD (p.length - 1) []) (rclimbV leaf (n - spl n) (i - spl n) (p.take (p.length - 1))).1, (rclimbV leaf (n - spl n) (i - spl n) (p.take (p.length - 1))).2)
termination_by n
decreasing_by
  all_goals (have h1 := spl_lt (n := n) (by omega); have h2 := spl_pos n; omega)
theorem rclimb_one {leaf : Hs} {n i : Nat} {p : List Hs} (h : n < 2) : rclimbV leaf n i p = (leaf, decide (p.length = 0)) := by rw [rclimbV, if_pos h]
theorem rclimb_nil {leaf : Hs} {n i : Nat} {p : List Hs} (h : ¬ n < 2) (h0 : p.length = 0) : rclimbV leaf n i p = (zero32, false) := by rw [rclimbV, if_neg h, if_pos h0]
theorem rclimb_lo {leaf : Hs} {n i : Nat} {p : List Hs} (h : ¬ n < 2) (h0 : ¬ p.length = 0) (hi : i < spl n) : rclimbV leaf n i p = (node (rclimbV leaf (spl n) i (p.take (p.length - 1))).1 (p.getD (p.length - 1) []), (rclimbV leaf (spl n) i (p.take (p.length - 1))).2) := by rw [rclimbV, if_neg h, if_neg h0, if_pos hi]
theorem rclimb_hi {leaf : Hs} {n i : Nat} {p : List Hs} (h : ¬ n < 2) (h0 : ¬ p.length = 0) (hi : ¬ i < spl n) : rclimbV leaf n i p = (node (p.getD (p.length - 1) []) (rclimbV leaf (n - spl n) (i - spl n) (p.take (p.length - 1))).1, (rclimbV leaf (n - spl n) (i - spl n) (p.take (p.length - 1))).2) := by rw [rclimbV, if_neg h, if_neg h0, if_neg hi]
theorem rclimb_len {leaf : Hs} {n i : Nat} {p : List Hs} (h : leaf.length = 32) : (rclimbV leaf n i p).1.length = 32 := by
  by_cases h2 : n < 2
  · rw [rclimb_one h2]; exact h
  · by_cases h0 : p.length = 0
    · rw [rclimb_nil h2 h0]; exact zero32_len
    · by_cases hi : i < spl n
      · rw [rclimb_lo h2 h0 hi]; exact node_length _ _
      · rw [rclimb_hi h2 h0 hi]; exact node_length _ _
theorem climb_miss {leaf : Hs} {p : List Hs} : ∀ (N n i : Nat) (t : Tk), n ≤ N → t.miss = true → (climbV leaf p n i t).2.miss = true
  | 0, n, i, t, h, ht => by rw [climb_one (by omega)]; exact ht
  | N + 1, n, i, t, h, ht => by
    by_cases h2 : n < 2
    · rw [climb_one h2]; exact ht
    · have k1 := spl_lt (n := n) (by omega)
      have k2 := spl_pos n
      have hm : (takeV p t).2.miss = true := by
        by_cases h0 : t.left = 0
        · rw [take_zero h0]
        · rw [take_pos h0]; exact ht
      by_cases hi : i < spl n
      · rw [climb_lo h2 hi]; exact climb_miss N _ _ _ (by omega) hm
      · rw [climb_hi h2 hi]; exact climb_miss N _ _ _ (by omega) hm
theorem take_of_take (p : List Hs) {k : Nat} (hk : k ≠ 0) (hl : k ≤ p.length) : (p.take k).length = k ∧ (p.take k).take ((p.take k).length - 1) = p.take (k - 1) ∧ (p.take k).getD ((p.take k).length - 1) [] = p.getD (k - 1) [] := by
  have h1 : (p.take k).length = k := by rw [List.length_take]; omega
  refine ⟨h1, ?_, ?_⟩
  · rw [h1, List.take_take]; congr 1; omega
  · rw [h1, List.getD_eq_getElem?_getD, List.getD_eq_getElem?_getD, List.getElem?_take, if_pos (by omega)]
theorem climb_same {leaf : Hs} {p : List Hs} : ∀ (N n i : Nat) (t : Tk), n ≤ N → t.miss = false → t.left ≤ p.length → (rclimbV leaf n i (p.take t.left)).2 = doneV (climbV leaf p n i t).2 ∧ ((rclimbV leaf n i (p.take t.left)).2 = true → (rclimbV leaf n i (p.take t.left)).1 = (climbV leaf p n i t).1)
  | N, n, i, t, h, ht, hl => by
    have hpl : (p.take t.left).length = t.left := by rw [List.length_take]; omega
    by_cases h2 : n < 2
    · rw [climb_one h2, rclimb_one h2]
      refine ⟨?_, fun _ => rfl⟩
      show decide _ = doneV t
      unfold doneV
      rw [ht, hpl]; simp
    · have k1 := spl_lt (n := n) (by omega)
      have k2 := spl_pos n
      by_cases h0 : t.left = 0
      · rw [rclimb_nil h2 (by omega)]
        refine ⟨?_, fun h => by cases h⟩
        have hm : (climbV leaf p n i t).2.miss = true := by
          by_cases hi : i < spl n
          · rw [climb_lo h2 hi, take_zero h0]; exact climb_miss _ _ _ _ (Nat.le_refl _) rfl
          · rw [climb_hi h2 hi, take_zero h0]; exact climb_miss _ _ _ _ (Nat.le_refl _) rfl
        unfold doneV
        rw [hm]; simp
      · obtain ⟨e1, e2, e3⟩ := take_of_take p h0 hl
        match N with
        | 0 => omega
        | N + 1 =>
          by_cases hi : i < spl n
          · obtain ⟨q1, q2⟩ := climb_same N (spl n) i (takeV p t).2 (by omega) (by rw [take_pos h0]; exact ht) (Nat.le_trans (take_left p t) hl)
            rw [climb_lo h2 hi, rclimb_lo h2 (by omega) hi, e2, e3]
            rw [take_pos h0] at q1 q2 ⊢
            dsimp only at q1 q2 ⊢
            exact ⟨q1, fun h => by rw [q2 h]⟩
          · obtain ⟨q1, q2⟩ := climb_same N (n - spl n) (i - spl n) (takeV p t).2 (by omega) (by rw [take_pos h0]; exact ht) (Nat.le_trans (take_left p t) hl)
            rw [climb_hi h2 hi, rclimb_hi h2 (by omega) hi, e2, e3]
            rw [take_pos h0] at q1 q2 ⊢
            dsimp only at q1 q2 ⊢
            exact ⟨q1, fun h => by rw [q2 h]⟩
/-- What Includes decides; and the reference. -/
def inclV (root : Hs) (n i : Int) (leaf : Hs) (p : List Hs) : Bool := if i < 0 ∨ n ≤ i ∨ 65536 < n then false else decide ((climbV leaf p n.toNat i.toNat ⟨p.length, false⟩).1 = root) && doneV (climbV leaf p n.toNat i.toNat ⟨p.length, false⟩).2
def rinclV (root : Hs) (n i : Int) (leaf : Hs) (p : List Hs) : Bool := if i < 0 ∨ n ≤ i ∨ 65536 < n then false else (rclimbV leaf n.toNat i.toNat p).2 && decide ((rclimbV leaf n.toNat i.toNat p).1 = root)
theorem incl_bad {root : Hs} {n i : Int} {leaf : Hs} {p : List Hs} (h : i < 0 ∨ n ≤ i ∨ 65536 < n) : inclV root n i leaf p = false := if_pos h
theorem incl_ok {root : Hs} {n i : Nat} {leaf : Hs} {p : List Hs} (h1 : i < n) (h2 : n ≤ 65536) : inclV root n i leaf p = (decide ((climbV leaf p n i ⟨p.length, false⟩).1 = root) && doneV (climbV leaf p n i ⟨p.length, false⟩).2) := if_neg (by omega)
theorem rincl_bad {root : Hs} {n i : Int} {leaf : Hs} {p : List Hs} (h : i < 0 ∨ n ≤ i ∨ 65536 < n) : rinclV root n i leaf p = false := if_pos h
theorem rincl_ok {root : Hs} {n i : Nat} {leaf : Hs} {p : List Hs} (h1 : i < n) (h2 : n ≤ 65536) : rinclV root n i leaf p = ((rclimbV leaf n i p).2 && decide ((rclimbV leaf n i p).1 = root)) := if_neg (by omega)
theorem incl_same (root : Hs) (n i : Int) (leaf : Hs) (p : List Hs) : rinclV root n i leaf p = inclV root n i leaf p := by
  by_cases h : i < 0 ∨ n ≤ i ∨ 65536 < n
  · rw [incl_bad h, rincl_bad h]
  · unfold inclV rinclV
    rw [if_neg h, if_neg h]
    obtain ⟨q1, q2⟩ := climb_same (leaf := leaf) (p := p) _ n.toNat i.toNat ⟨p.length, false⟩ (Nat.le_refl _) rfl (Nat.le_refl _)
    rw [List.take_length] at q1 q2
    rw [← q1]
    cases hb : (rclimbV leaf n.toNat i.toNat p).2 with
    | false => simp
    | true => rw [q2 hb]; simp
/-- A path is accepted for its leaf. -/
theorem climb_path : ∀ (N : Nat) (l : List Hs) (i : Nat) (x : Hs), l.length ≤ N → l[i]? = some x → rclimbV x l.length i (pathV l i) = (rootV l, true)
  | N, l, i, x, h, hx => by
    have hi := (List.getElem?_eq_some_iff.1 hx).1
    by_cases h2 : l.length < 2
    · rw [rclimb_one h2, path_one h2]
      have : l = [x] := by
        match l, h2, hi, hx with
        | [y], _, hi, hx =>
          have : i = 0 := by simpa using hi
          subst this
          simpa using hx
      subst this
      rw [root_one]; rfl
    · have k1 := spl_lt (n := l.length) (by omega)
      have k2 := spl_pos l.length
      match N with
      | 0 => omega
      | N + 1 =>
        by_cases hk : i < spl l.length
        · have e1 : (l.take (spl l.length)).length = spl l.length := by rw [List.length_take]; omega
          have ih := climb_path N (l.take (spl l.length)) i x (by omega) (by rw [List.getElem?_take, if_pos hk]; exact hx)
          rw [e1] at ih
          rw [path_lo (by omega) hk, rclimb_lo h2 (by simp) hk]
          rw [show (pathV (l.take (spl l.length)) i ++ [rootV (l.drop (spl l.length))]).length - 1 = (pathV (l.take (spl l.length)) i).length from by simp]
          rw [List.take_left' rfl, ih, List.getD_eq_getElem?_getD, List.getElem?_append_right (Nat.le_refl _)]
          simp only [Nat.sub_self, List.getElem?_cons_zero, Option.getD_some]
          rw [root_two (l := l) (by omega)]
        · have e1 : (l.drop (spl l.length)).length = l.length - spl l.length := List.length_drop
          have ih := climb_path N (l.drop (spl l.length)) (i - spl l.length) x (by omega) (by rw [List.getElem?_drop, show spl l.length + (i - spl l.length) = i from by omega]; exact hx)
          rw [e1] at ih
          rw [path_hi (by omega) hk, rclimb_hi h2 (by simp) hk]
          rw [show (pathV (l.drop (spl l.length)) (i - spl l.length) ++ [rootV (l.take (spl l.length))]).length - 1 = (pathV (l.drop (spl l.length)) (i - spl l.length)).length from by simp]
          rw [List.take_left' rfl, ih, List.getD_eq_getElem?_getD, List.getElem?_append_right (Nat.le_refl _)]
          simp only [Nat.sub_self, List.getElem?_cons_zero, Option.getD_some]
          rw [root_two (l := l) (by omega)]
theorem incl_path {l : List Hs} {i : Nat} {x : Hs} (h : l.length ≤ 65536) (hx : l[i]? = some x) : inclV (rootV l) l.length i x (pathV l i) = true := by
  have hi := (List.getElem?_eq_some_iff.1 hx).1
  rw [← incl_same, rincl_ok hi h, climb_path _ l i x (Nat.le_refl _) hx]; simp

/- EXTENSION -/
def climbE (old : Hs) (p : List Hs) (m n : Nat) (w : Bool) (t : Tk) : Hs × Hs × Tk := if m = n ∧ w = true then (old, old, t) else if m = n ∨ n < 2 then ((takeV p t).1, (takeV p t).1, (takeV p t).2) else if m ≤ spl n then ((climbE old p m (spl n) w (takeV p t).2).1, node (climbE old p m (spl n) w (takeV p t).2).2.1 (takeV p t).1, (climbE old p m (spl n) w (takeV p t).2).2.2) else (node (takeV p t).1 (climbE old p (m - spl n) (n - spl n) false (takeV p t).2).1, node (takeV p t).1 (climbE old p (m - spl n) (n - spl n) false (takeV p t).2).2.1, (climbE old p (m - spl n) (n - spl n) false (takeV p t).2).2.2)
termination_by n
decreasing_by
  all_goals (have h1 := spl_lt (n := n) (by omega); have h2 := spl_pos n; omega)
section
variable {old : Hs} {p : List Hs} {m n : Nat} {w : Bool} {t : Tk}
theorem climbE_whole : climbE old p n n true t = (old, old, t) := by rw [climbE, if_pos ⟨rfl, rfl⟩]
theorem climbE_part : climbE old p n n false t = ((takeV p t).1, (takeV p t).1, (takeV p t).2) := by rw [climbE, if_neg (fun h => by cases h.2), if_pos (.inl rfl)]
theorem climbE_lo (h : m ≠ n) (h2 : ¬ n < 2) (hk : m ≤ spl n) : climbE old p m n w t = ((climbE old p m (spl n) w (takeV p t).2).1, node (climbE old p m (spl n) w (takeV p t).2).2.1 (takeV p t).1, (climbE old p m (spl n) w (takeV p t).2).2.2) := by rw [climbE, if_neg (fun q => h q.1), if_neg (fun q => q.elim h h2), if_pos hk]
theorem climbE_hi (h : m ≠ n) (h2 : ¬ n < 2) (hk : ¬ m ≤ spl n) : climbE old p m n w t = (node (takeV p t).1 (climbE old p (m - spl n) (n - spl n) false (takeV p t).2).1, node (takeV p t).1 (climbE old p (m - spl n) (n - spl n) false (takeV p t).2).2.1, (climbE old p (m - spl n) (n - spl n) false (takeV p t).2).2.2) := by rw [climbE, if_neg (fun q => h q.1), if_neg (fun q => q.elim h h2), if_neg hk]
end
theorem climbE_len {old : Hs} {p : List Hs} (ho : old.length = 32) (hp : ∀ x ∈ p, x.length = 32) : ∀ (N m n : Nat) (w : Bool) (t : Tk), n ≤ N → t.left ≤ p.length → (climbE old p m n w t).1.length = 32 ∧ (climbE old p m n w t).2.1.length = 32
  | N, m, n, w, t, h, hl => by
    have ht := take_len hp hl
    have htl := take_left p t
    by_cases hm : m = n
    · subst hm
      cases w
      · rw [climbE_part]; exact ⟨ht, ht⟩
      · rw [climbE_whole]; exact ⟨ho, ho⟩
    · by_cases h2 : n < 2
      · rw [climbE, if_neg (fun q => hm q.1), if_pos (.inr h2)]; exact ⟨ht, ht⟩
      · have k1 := spl_lt (n := n) (by omega)
        have k2 := spl_pos n
        match N with
        | 0 => omega
        | N + 1 =>
          by_cases hk : m ≤ spl n
          · rw [climbE_lo hm h2 hk]
            exact ⟨(climbE_len ho hp N _ _ _ _ (by omega) (by omega)).1, node_length _ _⟩
          · rw [climbE_hi hm h2 hk]; exact ⟨node_length _ _, node_length _ _⟩
def valuesV (m n : Nat) (w : Bool) (old : Hs) (p : List Hs) : Hs × Hs × Bool := if m = n ∧ w = true then (old, old, decide (p.length = 0)) else if p.length = 0 then (zero32, zero32, false) else if m = n ∨ n < 2 then (p.getD (p.length - 1) [], p.getD (p.length - 1) [], decide (p.length - 1 = 0)) else if m ≤ spl n then ((valuesV m (spl n) w old (p.take (p.length - 1))).1, node (valuesV m (spl n) w old (p.take (p.length - 1))).2.1 (p.getD (p.length - 1) []), (valuesV m (spl n) w old (p.take (p.length - 1))).2.2) else (node (p.getD (p.length - 1) []) (valuesV (m - spl n) (n - spl n) false old (p.take (p.length - 1))).1, node (p.getD (p.length - 1) []) (valuesV (m - spl n) (n - spl n) false old (p.take (p.length - 1))).2.1, (valuesV (m - spl n) (n - spl n) false old (p.take (p.length - 1))).2.2)
termination_by n
decreasing_by
  all_goals (have h1 := spl_lt (n := n) (by omega); have h2 := spl_pos n; omega)
section
variable {old : Hs} {p : List Hs} {m n : Nat} {w : Bool}
theorem values_whole : valuesV n n true old p = (old, old, decide (p.length = 0)) := by rw [valuesV, if_pos ⟨rfl, rfl⟩]
theorem values_nil (h : ¬ (m = n ∧ w = true)) (h0 : p.length = 0) : valuesV m n w old p = (zero32, zero32, false) := by rw [valuesV, if_neg h, if_pos h0]
theorem values_part (h0 : ¬ p.length = 0) : valuesV n n false old p = (p.getD (p.length - 1) [], p.getD (p.length - 1) [], decide (p.length - 1 = 0)) := by rw [valuesV, if_neg (fun h => by cases h.2), if_neg h0, if_pos (.inl rfl)]
theorem values_lo (h : m ≠ n) (h0 : ¬ p.length = 0) (h2 : ¬ n < 2) (hk : m ≤ spl n) : valuesV m n w old p = ((valuesV m (spl n) w old (p.take (p.length - 1))).1, node (valuesV m (spl n) w old (p.take (p.length - 1))).2.1 (p.getD (p.length - 1) []), (valuesV m (spl n) w old (p.take (p.length - 1))).2.2) := by rw [valuesV, if_neg (fun q => h q.1), if_neg h0, if_neg (fun q => q.elim h h2), if_pos hk]
theorem values_hi (h : m ≠ n) (h0 : ¬ p.length = 0) (h2 : ¬ n < 2) (hk : ¬ m ≤ spl n) : valuesV m n w old p = (node (p.getD (p.length - 1) []) (valuesV (m - spl n) (n - spl n) false old (p.take (p.length - 1))).1, node (p.getD (p.length - 1) []) (valuesV (m - spl n) (n - spl n) false old (p.take (p.length - 1))).2.1, (valuesV (m - spl n) (n - spl n) false old (p.take (p.length - 1))).2.2) := by rw [valuesV, if_neg (fun q => h q.1), if_neg h0, if_neg (fun q => q.elim h h2), if_neg hk]
end
theorem getD_last {p : List Hs} (hp : ∀ x ∈ p, x.length = 32) (h0 : ¬ p.length = 0) : (p.getD (p.length - 1) []).length = 32 := by
  rw [List.getD_eq_getElem?_getD, List.getElem?_eq_getElem (by omega)]
  exact hp _ (List.getElem_mem _)
theorem values_len {old : Hs} (ho : old.length = 32) : ∀ (N m n : Nat) (w : Bool) (p : List Hs), (∀ x ∈ p, x.length = 32) → n ≤ N → (valuesV m n w old p).1.length = 32 ∧ (valuesV m n w old p).2.1.length = 32
  | N, m, n, w, p, hp, h => by
    by_cases hw : m = n ∧ w = true
    · obtain ⟨rfl, rfl⟩ := hw
      rw [values_whole]; exact ⟨ho, ho⟩
    · by_cases h0 : p.length = 0
      · rw [values_nil hw h0]; exact ⟨zero32_len, zero32_len⟩
      · have hs := getD_last hp h0
        by_cases hm : m = n
        · subst hm
          have hwf : w = false := by
            cases w
            · rfl
            · exact absurd ⟨rfl, rfl⟩ hw
          subst hwf
          rw [values_part h0]; exact ⟨hs, hs⟩
        · by_cases h2 : n < 2
          · rw [valuesV, if_neg hw, if_neg h0, if_pos (.inr h2)]; exact ⟨hs, hs⟩
          · have k1 := spl_lt (n := n) (by omega)
            have k2 := spl_pos n
            match N with
            | 0 => omega
            | N + 1 =>
              by_cases hk : m ≤ spl n
              · rw [values_lo hm h0 h2 hk]
                exact ⟨(values_len ho N _ _ _ _ (fun x hx => hp x (List.mem_of_mem_take hx)) (by omega)).1, node_length _ _⟩
              · rw [values_hi hm h0 h2 hk]; exact ⟨node_length _ _, node_length _ _⟩
theorem climbE_miss {old : Hs} {p : List Hs} : ∀ (N m n : Nat) (w : Bool) (t : Tk), n ≤ N → t.miss = true → (climbE old p m n w t).2.2.miss = true
  | N, m, n, w, t, h, ht => by
    have hm' : (takeV p t).2.miss = true := by
      by_cases h0 : t.left = 0
      · rw [take_zero h0]
      · rw [take_pos h0]; exact ht
    by_cases hm : m = n
    · subst hm
      cases w
      · rw [climbE_part]; exact hm'
      · rw [climbE_whole]; exact ht
    · by_cases h2 : n < 2
      · rw [climbE, if_neg (fun q => hm q.1), if_pos (.inr h2)]; exact hm'
      · have k1 := spl_lt (n := n) (by omega)
        have k2 := spl_pos n
        match N with
        | 0 => omega
        | N + 1 =>
          by_cases hk : m ≤ spl n
          · rw [climbE_lo hm h2 hk]; exact climbE_miss N _ _ _ _ (by omega) hm'
          · rw [climbE_hi hm h2 hk]; exact climbE_miss N _ _ _ _ (by omega) hm'
theorem values_same {old : Hs} {p : List Hs} : ∀ (N m n : Nat) (w : Bool) (t : Tk), n ≤ N → 1 ≤ m → m ≤ n → t.miss = false → t.left ≤ p.length → (valuesV m n w old (p.take t.left)).2.2 = doneV (climbE old p m n w t).2.2 ∧ ((valuesV m n w old (p.take t.left)).2.2 = true → (valuesV m n w old (p.take t.left)).1 = (climbE old p m n w t).1 ∧ (valuesV m n w old (p.take t.left)).2.1 = (climbE old p m n w t).2.1)
  | N, m, n, w, t, h, h1, hmn, ht, hl => by
    have hpl : (p.take t.left).length = t.left := by rw [List.length_take]; omega
    by_cases hw : m = n ∧ w = true
    · obtain ⟨rfl, rfl⟩ := hw
      rw [climbE_whole, values_whole]
      refine ⟨?_, fun _ => ⟨rfl, rfl⟩⟩
      show decide _ = doneV t
      unfold doneV
      rw [ht, hpl]; simp
    · by_cases h0 : t.left = 0
      · rw [values_nil hw (by omega)]
        refine ⟨?_, fun h => by cases h⟩
        have hm : (climbE old p m n w t).2.2.miss = true := by
          by_cases hm : m = n
          · subst hm
            cases w
            · rw [climbE_part, take_zero h0]
            · exact absurd ⟨rfl, rfl⟩ hw
          · by_cases hk : m ≤ spl n
            · rw [climbE_lo hm (by omega) hk, take_zero h0]; exact climbE_miss _ _ _ _ _ (Nat.le_refl _) rfl
            · rw [climbE_hi hm (by omega) hk, take_zero h0]; exact climbE_miss _ _ _ _ _ (Nat.le_refl _) rfl
        unfold doneV
        rw [hm]; simp
      · obtain ⟨e1, e2, e3⟩ := take_of_take p h0 hl
        by_cases hm : m = n
        · subst hm
          have hwf : w = false := by
            cases w
            · rfl
            · exact absurd ⟨rfl, rfl⟩ hw
          subst hwf
          rw [climbE_part, values_part (by omega), e3, take_pos h0]
          refine ⟨?_, fun _ => ⟨rfl, rfl⟩⟩
          show decide _ = doneV ⟨t.left - 1, t.miss⟩
          unfold doneV
          rw [ht, hpl]; simp
        · have k1 := spl_lt (n := n) (by omega)
          have k2 := spl_pos n
          match N with
          | 0 => omega
          | N + 1 =>
            by_cases hk : m ≤ spl n
            · obtain ⟨q1, q2⟩ := values_same N m (spl n) w (takeV p t).2 (by omega) h1 hk (by rw [take_pos h0]; exact ht) (Nat.le_trans (take_left p t) hl)
              rw [climbE_lo hm (by omega) hk, values_lo hm (by omega) (by omega) hk, e2, e3]
              rw [take_pos h0] at q1 q2 ⊢
              dsimp only at q1 q2 ⊢
              exact ⟨q1, fun h => ⟨(q2 h).1, by rw [(q2 h).2]⟩⟩
            · obtain ⟨q1, q2⟩ := values_same N (m - spl n) (n - spl n) false (takeV p t).2 (by omega) (by omega) (by omega) (by rw [take_pos h0]; exact ht) (Nat.le_trans (take_left p t) hl)
              rw [climbE_hi hm (by omega) hk, values_hi hm (by omega) (by omega) hk, e2, e3]
              rw [take_pos h0] at q1 q2 ⊢
              dsimp only at q1 q2 ⊢
              exact ⟨q1, fun h => ⟨by rw [(q2 h).1], by rw [(q2 h).2]⟩⟩
def extZ (old root : Hs) (n : Int) (p : List Hs) : Bool := decide (old = rootV []) && decide (p.length = 0) && (decide (0 < n) || decide (root = old))
def extV (old : Hs) (m : Int) (root : Hs) (n : Int) (p : List Hs) : Bool := if m < 0 ∨ n < m ∨ 65536 < n then false else if m = 0 then extZ old root n p else decide ((climbE old p m.toNat n.toNat true ⟨p.length, false⟩).1 = old) && decide ((climbE old p m.toNat n.toNat true ⟨p.length, false⟩).2.1 = root) && doneV (climbE old p m.toNat n.toNat true ⟨p.length, false⟩).2.2
def rextV (old : Hs) (m : Int) (root : Hs) (n : Int) (p : List Hs) : Bool := if m < 0 ∨ n < m ∨ 65536 < n then false else if m = 0 then extZ old root n p else (valuesV m.toNat n.toNat true old p).2.2 && decide ((valuesV m.toNat n.toNat true old p).1 = old) && decide ((valuesV m.toNat n.toNat true old p).2.1 = root)
section
variable {old root : Hs} {p : List Hs}
theorem ext_bad {m n : Int} (h : m < 0 ∨ n < m ∨ 65536 < n) : extV old m root n p = false := if_pos h
theorem rext_bad {m n : Int} (h : m < 0 ∨ n < m ∨ 65536 < n) : rextV old m root n p = false := if_pos h
theorem ext_zero {n : Int} (h : ¬ ((0 : Int) < 0 ∨ n < 0 ∨ 65536 < n)) : extV old 0 root n p = extZ old root n p := by unfold extV; rw [if_neg h, if_pos rfl]
theorem rext_zero {n : Int} (h : ¬ ((0 : Int) < 0 ∨ n < 0 ∨ 65536 < n)) : rextV old 0 root n p = extZ old root n p := by unfold rextV; rw [if_neg h, if_pos rfl]
theorem ext_ok {m n : Nat} (h0 : 1 ≤ m) (h1 : m ≤ n) (h2 : n ≤ 65536) : extV old m root n p = (decide ((climbE old p m n true ⟨p.length, false⟩).1 = old) && decide ((climbE old p m n true ⟨p.length, false⟩).2.1 = root) && doneV (climbE old p m n true ⟨p.length, false⟩).2.2) := by unfold extV; rw [if_neg (by omega), if_neg (by omega)]; rfl
theorem rext_ok {m n : Nat} (h0 : 1 ≤ m) (h1 : m ≤ n) (h2 : n ≤ 65536) : rextV old m root n p = ((valuesV m n true old p).2.2 && decide ((valuesV m n true old p).1 = old) && decide ((valuesV m n true old p).2.1 = root)) := by unfold rextV; rw [if_neg (by omega), if_neg (by omega)]; rfl
end
theorem ext_same (old : Hs) (m : Int) (root : Hs) (n : Int) (p : List Hs) : rextV old m root n p = extV old m root n p := by
  by_cases h : m < 0 ∨ n < m ∨ 65536 < n
  · rw [ext_bad h, rext_bad h]
  · by_cases h0 : m = 0
    · subst h0
      rw [ext_zero h, rext_zero h]
    · unfold extV rextV
      rw [if_neg h, if_neg h, if_neg h0, if_neg h0]
      obtain ⟨q1, q2⟩ := values_same (old := old) (p := p) _ m.toNat n.toNat true ⟨p.length, false⟩ (Nat.le_refl _) (by omega) (by omega) rfl (Nat.le_refl _)
      rw [List.take_length] at q1 q2
      rw [← q1]
      cases hb : (valuesV m.toNat n.toNat true old p).2.2 with
      | false => simp
      | true => rw [(q2 hb).1, (q2 hb).2]; simp
/-- A growth is accepted. -/
theorem values_grow {old : Hs} : ∀ (N : Nat) (l : List Hs) (m : Nat) (w : Bool), l.length ≤ N → 1 ≤ m → m ≤ l.length → (w = true → old = rootV (l.take m)) → valuesV m l.length w old (growV m l w) = (rootV (l.take m), rootV l, true)
  | N, l, m, w, h, h1, hml, ho => by
    by_cases hm : m = l.length
    · subst hm
      rw [List.take_length] at ho ⊢
      cases w
      · rw [grow_part, values_part (by simp)]; rfl
      · rw [grow_whole, values_whole, ho rfl]; rfl
    · have k1 := spl_lt (n := l.length) (by omega)
      have k2 := spl_pos l.length
      have k3 := spl_le (n := l.length) (by omega)
      match N with
      | 0 => omega
      | N + 1 =>
        have last : ∀ (q : List Hs) (y : Hs), (q ++ [y]).take ((q ++ [y]).length - 1) = q ∧ (q ++ [y]).getD ((q ++ [y]).length - 1) [] = y := fun q y => by
          rw [show (q ++ [y]).length - 1 = q.length from by simp]
          refine ⟨List.take_left' rfl, ?_⟩
          rw [List.getD_eq_getElem?_getD, List.getElem?_append_right (Nat.le_refl _)]
          simp
        by_cases hk : m ≤ spl l.length
        · have e1 : (l.take (spl l.length)).length = spl l.length := by rw [List.length_take]; omega
          have e2 : (l.take (spl l.length)).take m = l.take m := by rw [List.take_take]; congr 1; omega
          have ih := values_grow (old := old) N (l.take (spl l.length)) m w (by omega) h1 (by omega) (fun hw => by rw [e2]; exact ho hw)
          rw [e1, e2] at ih
          rw [grow_lo hm (by omega) hk, values_lo hm (by simp) (by omega) hk, (last _ _).1, (last _ _).2, ih, root_two (l := l) (by omega)]
        · have e1 : (l.drop (spl l.length)).length = l.length - spl l.length := List.length_drop
          have ih := values_grow (old := old) N (l.drop (spl l.length)) (m - spl l.length) false (by omega) (by omega) (by omega) (fun hw => by cases hw)
          rw [e1] at ih
          have e3 : spl (l.take m).length = spl l.length := by
            rw [List.length_take, Nat.min_eq_left hml]
            obtain ⟨e, he⟩ := spl_exp l.length
            rw [he] at hk k3 ⊢
            exact spl_of (by omega) (by rw [Nat.pow_succ]; omega)
          have e4 : rootV (l.take m) = node (rootV (l.take (spl l.length))) (rootV ((l.drop (spl l.length)).take (m - spl l.length))) := by
            rw [root_two (l := l.take m) (by rw [List.length_take]; omega), e3, List.take_take, List.drop_take, show min (spl l.length) m = spl l.length from by omega]
          rw [grow_hi hm (by omega) hk, values_hi hm (by simp) (by omega) hk, (last _ _).1, (last _ _).2, ih, e4, root_two (l := l) (by omega)]
theorem ext_grow {l : List Hs} {m : Nat} (h : l.length ≤ 65536) (h1 : 1 ≤ m) (hm : m ≤ l.length) : extV (rootV (l.take m)) m (rootV l) l.length (growV m l true) = true := by
  rw [← ext_same, rext_ok h1 hm h, values_grow _ l m true (Nat.le_refl _) h1 hm (fun _ => rfl)]; simp
end Go.Mk
