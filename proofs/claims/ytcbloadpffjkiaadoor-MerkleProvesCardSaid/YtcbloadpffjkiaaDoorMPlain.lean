/- Hash trees, in plain Lean. -/
import Derived.Test.YtcbloadpffjkiaaDoorShaEx
import Derived.Test.YtcbloadpffjkiaaDoorSha2
namespace Go.Mk
open Go.Wk Go.Sha

abbrev Hs := List UInt8
/-- The greatest power of two that is less than n. -/
def spl (n : Nat) : Nat := 2 ^ Nat.log2 (n - 1)
theorem spl_pos (n : Nat) : 0 < spl n := Nat.pow_pos (by decide)
theorem spl_lt {n : Nat} (h : 2 ≤ n) : spl n < n := by
  have := Nat.log2_self_le (n := n - 1) (by omega)
  unfold spl; omega
theorem spl_le {n : Nat} (h : 2 ≤ n) : n ≤ 2 * spl n := by
  have := Nat.lt_log2_self (n := n - 1)
  rw [Nat.pow_succ] at this
  unfold spl; omega
theorem spl_of {n e : Nat} (h1 : 2 ^ e < n) (h2 : n ≤ 2 ^ (e + 1)) : spl n = 2 ^ e := by
  have hn : n - 1 ≠ 0 := by have := Nat.pow_pos (a := 2) (n := e) (by decide); omega
  have : Nat.log2 (n - 1) = e := (Nat.log2_eq_iff hn).2 ⟨by omega, by omega⟩
  unfold spl; rw [this]
theorem spl_exp (n : Nat) : ∃ e, spl n = 2 ^ e := ⟨_, rfl⟩

def rootV (l : List Hs) : Hs := if l.length < 2 then (match l with | [] => sum [] | x :: _ => x) else node (rootV (l.take (spl l.length))) (rootV (l.drop (spl l.length)))
termination_by l.length
decreasing_by
  · rw [List.length_take]; have := spl_lt (n := l.length) (by omega); omega
  · rw [List.length_drop]; have := spl_pos l.length; omega
theorem root_nil : rootV [] = sum [] := by unfold rootV; rfl
theorem root_one (x : Hs) : rootV [x] = x := by unfold rootV; rfl
theorem root_two {l : List Hs} (h : 2 ≤ l.length) : rootV l = node (rootV (l.take (spl l.length))) (rootV (l.drop (spl l.length))) := by
  conv => lhs; unfold rootV
  rw [if_neg (by omega)]
theorem node_length (x y : Hs) : (node x y).length = 32 := by unfold node; exact sum_length _
theorem root_len {l : List Hs} (h : ∀ x ∈ l, x.length = 32) : (rootV l).length = 32 := by
  by_cases h2 : 2 ≤ l.length
  · rw [root_two h2]; exact node_length _ _
  · match l, h2 with
    | [], _ => rw [root_nil]; exact sum_length _
    | [x], _ => rw [root_one]; exact h x (List.mem_singleton.2 rfl)
    | _ :: _ :: _, h2 => simp at h2

def pathV (l : List Hs) (i : Nat) : List Hs := if l.length < 2 then [] else if i < spl l.length then pathV (l.take (spl l.length)) i ++ [rootV (l.drop (spl l.length))] else pathV (l.drop (spl l.length)) (i - spl l.length) ++ [rootV (l.take (spl l.length))]
termination_by l.length
decreasing_by
  · rw [List.length_take]; have := spl_lt (n := l.length) (by omega); omega
  · rw [List.length_drop]; have := spl_pos l.length; omega
theorem path_one {l : List Hs} {i : Nat} (h : l.length < 2) : pathV l i = [] := by rw [pathV, if_pos h]
theorem path_lo {l : List Hs} {i : Nat} (h : 2 ≤ l.length) (hi : i < spl l.length) : pathV l i = pathV (l.take (spl l.length)) i ++ [rootV (l.drop (spl l.length))] := by rw [pathV, if_neg (by omega), if_pos hi]
theorem path_hi {l : List Hs} {i : Nat} (h : 2 ≤ l.length) (hi : ¬ i < spl l.length) : pathV l i = pathV (l.drop (spl l.length)) (i - spl l.length) ++ [rootV (l.take (spl l.length))] := by rw [pathV, if_neg (by omega), if_neg hi]

def growV (m : Nat) (l : List Hs) (whole : Bool) : List Hs := if m = l.length then (if whole then [] else [rootV l]) else if l.length < 2 then [] else if m ≤ spl l.length then growV m (l.take (spl l.length)) whole ++ [rootV (l.drop (spl l.length))] else growV (m - spl l.length) (l.drop (spl l.length)) false ++ [rootV (l.take (spl l.length))]
termination_by l.length
decreasing_by
  · rw [List.length_take]; have := spl_lt (n := l.length) (by omega); omega
  · rw [List.length_drop]; have := spl_pos l.length; omega
theorem grow_whole {l : List Hs} : growV l.length l true = [] := by rw [growV, if_pos rfl]; rfl
theorem grow_part {l : List Hs} : growV l.length l false = [rootV l] := by rw [growV, if_pos rfl]; rfl
theorem grow_lo {m : Nat} {l : List Hs} {w : Bool} (hm : m ≠ l.length) (h : 2 ≤ l.length) (hk : m ≤ spl l.length) : growV m l w = growV m (l.take (spl l.length)) w ++ [rootV (l.drop (spl l.length))] := by rw [growV, if_neg hm, if_neg (by omega), if_pos hk]
theorem grow_hi {m : Nat} {l : List Hs} {w : Bool} (hm : m ≠ l.length) (h : 2 ≤ l.length) (hk : ¬ m ≤ spl l.length) : growV m l w = growV (m - spl l.length) (l.drop (spl l.length)) false ++ [rootV (l.take (spl l.length))] := by rw [growV, if_neg hm, if_neg (by omega), if_neg hk]

/- BLOCKS -/
def blocksV (l : List Hs) : List Hs := if l.length = 0 then [] else rootV (l.take (spl (l.length + 1))) :: blocksV (l.drop (spl (l.length + 1)))
termination_by l.length
decreasing_by
  rw [List.length_drop]; have := spl_pos (l.length + 1); omega
theorem blocks_nil : blocksV [] = [] := by rw [blocksV]; rfl
theorem blocks_cons {l : List Hs} (h : 0 < l.length) : blocksV l = rootV (l.take (spl (l.length + 1))) :: blocksV (l.drop (spl (l.length + 1))) := by rw [blocksV, if_neg (by omega)]
/-- The number of ones. -/
def ones (n : Nat) : Nat := if n = 0 then 0 else n % 2 + ones (n / 2)
theorem ones_zero : ones 0 = 0 := by rw [ones]; rfl
theorem ones_step (n : Nat) : ones n = n % 2 + ones (n / 2) := by
  by_cases h : n = 0
  · subst h; simp [ones_zero]
  · rw [ones, if_neg h]
theorem ones_pow : ∀ (e b : Nat), b < 2 ^ e → ones (2 ^ e + b) = 1 + ones b
  | 0, b, h => by
    have : b = 0 := by simpa using h
    subst this; rw [ones_step]
  | e + 1, b, h => by
    rw [Nat.pow_succ] at h
    rw [ones_step, ones_step b]
    have h1 : (2 ^ (e + 1) + b) % 2 = b % 2 := by rw [Nat.pow_succ]; omega
    have h2 : (2 ^ (e + 1) + b) / 2 = 2 ^ e + b / 2 := by rw [Nat.pow_succ]; omega
    rw [h1, h2, ones_pow e (b / 2) (by omega)]; omega
theorem ones_pos {n : Nat} (h : n % 2 = 1) : 1 ≤ ones n := by rw [ones_step]; omega
/-- The last two are merged as long as n is odd. -/
def mergeV (n : Nat) (h : List Hs) : List Hs := if n % 2 = 1 then mergeV (n / 2) (h.take (h.length - 2) ++ [node (h.getD (h.length - 2) []) (h.getD (h.length - 1) [])]) else h
termination_by n
theorem merge_even {n : Nat} {h : List Hs} (hn : ¬ n % 2 = 1) : mergeV n h = h := by rw [mergeV, if_neg hn]
theorem merge_odd {n : Nat} {h : List Hs} (hn : n % 2 = 1) : mergeV n h = mergeV (n / 2) (h.take (h.length - 2) ++ [node (h.getD (h.length - 2) []) (h.getD (h.length - 1) [])]) := by rw [mergeV, if_pos hn]
def mrg (h : List Hs) : List Hs := h.take (h.length - 2) ++ [node (h.getD (h.length - 2) []) (h.getD (h.length - 1) [])]
theorem mrg_len {h : List Hs} (h2 : 2 ≤ h.length) : (mrg h).length = h.length - 1 := by unfold mrg; rw [List.length_append, List.length_take]; simp only [List.length_singleton]; omega
theorem mrg_cons {a : Hs} {h : List Hs} (h2 : 2 ≤ h.length) : mrg (a :: h) = a :: mrg h := by
  unfold mrg
  rw [List.length_cons, show h.length + 1 - 2 = (h.length - 2) + 1 from by omega, show h.length + 1 - 1 = (h.length - 1) + 1 from by omega]
  simp
theorem merge_cons : ∀ (e b : Nat) (a : Hs) (h : List Hs), b + 1 < 2 ^ e → h.length = ones b + 1 → mergeV (2 ^ e + b) (a :: h) = a :: mergeV b h
  | 0, b, _, _, hb, _ => by simp at hb
  | e + 1, b, a, h, hb, hl => by
    rw [Nat.pow_succ] at hb
    have h1 : (2 ^ (e + 1) + b) % 2 = b % 2 := by rw [Nat.pow_succ]; omega
    have h2 : (2 ^ (e + 1) + b) / 2 = 2 ^ e + b / 2 := by rw [Nat.pow_succ]; omega
    by_cases ho : b % 2 = 1
    · have hp := ones_pos ho
      have hst := ones_step b
      rw [merge_odd (by rw [h1]; exact ho), merge_odd ho, h2]
      change mergeV _ (mrg (a :: h)) = a :: mergeV _ (mrg h)
      rw [mrg_cons (by omega)]
      exact merge_cons e (b / 2) a (mrg h) (by omega) (by rw [mrg_len (by omega)]; omega)
    · rw [merge_even (by rw [h1]; exact ho), merge_even ho]
theorem ones_full : ∀ e, ones (2 ^ e - 1) = e
  | 0 => ones_zero
  | e + 1 => by
    have hp := Nat.pow_pos (a := 2) (n := e) (by decide)
    rw [ones_step, show (2 ^ (e + 1) - 1) % 2 = 1 from by rw [Nat.pow_succ]; omega, show (2 ^ (e + 1) - 1) / 2 = 2 ^ e - 1 from by rw [Nat.pow_succ]; omega, ones_full e]; omega
theorem merge_full : ∀ (e : Nat) (a z : Hs) (h : List Hs), h.length = e + 1 → mergeV (2 ^ e - 1) h = [z] → mergeV (2 ^ (e + 1) - 1) (a :: h) = [node a z]
  | 0, a, z, h, _, hm => by
    rw [merge_even (by decide)] at hm
    subst hm
    rw [show 2 ^ (0 + 1) - 1 = 1 from rfl, merge_odd (by decide), merge_even (by decide)]; rfl
  | e + 1, a, z, h, hl, hm => by
    have hp := Nat.pow_pos (a := 2) (n := e) (by decide)
    have o1 : (2 ^ (e + 1) - 1) % 2 = 1 := by rw [Nat.pow_succ]; omega
    have d1 : (2 ^ (e + 1) - 1) / 2 = 2 ^ e - 1 := by rw [Nat.pow_succ]; omega
    have o2 : (2 ^ (e + 1 + 1) - 1) % 2 = 1 := by rw [Nat.pow_succ]; omega
    have d2 : (2 ^ (e + 1 + 1) - 1) / 2 = 2 ^ (e + 1) - 1 := by rw [Nat.pow_succ 2 (e + 1)]; omega
    rw [merge_odd o1, d1] at hm
    rw [merge_odd o2, d2]
    change mergeV _ (mrg h) = [z] at hm
    change mergeV _ (mrg (a :: h)) = _
    rw [mrg_cons (by omega)]
    exact merge_full e a z (mrg h) (by rw [mrg_len (by omega)]; omega) hm
/-- n's greatest power of two. -/
theorem top_pow {n : Nat} (h : 0 < n) : ∃ e, spl (n + 1) = 2 ^ e ∧ 2 ^ e ≤ n ∧ n < 2 * 2 ^ e := by
  have h1 := spl_lt (n := n + 1) (by omega)
  have h2 := spl_le (n := n + 1) (by omega)
  obtain ⟨e, he⟩ := spl_exp (n + 1)
  exact ⟨e, he, by omega, by omega⟩
theorem blocks_len : ∀ (N : Nat) (l : List Hs), l.length ≤ N → (blocksV l).length = ones l.length
  | 0, l, h => by
    have : l = [] := List.eq_nil_of_length_eq_zero (by omega)
    subst this; rw [blocks_nil]; exact ones_zero.symm
  | N + 1, l, h => by
    by_cases h0 : 0 < l.length
    · obtain ⟨e, he, h1, h2⟩ := top_pow h0
      have hd : (l.drop (2 ^ e)).length = l.length - 2 ^ e := List.length_drop
      have hp := Nat.pow_pos (a := 2) (n := e) (by decide)
      rw [blocks_cons h0, he, List.length_cons, blocks_len N _ (by omega), hd]
      have := ones_pow e (l.length - 2 ^ e) (by omega)
      rw [show 2 ^ e + (l.length - 2 ^ e) = l.length from by omega] at this
      omega
    · have : l = [] := List.eq_nil_of_length_eq_zero (by omega)
      subst this; rw [blocks_nil]; exact ones_zero.symm
/-- The blocks after a further leaf; and their root where they are one block. -/
theorem blocks_snoc : ∀ (N : Nat) (l : List Hs) (x : Hs), l.length ≤ N → mergeV l.length (blocksV l ++ [x]) = blocksV (l ++ [x])
  | 0, l, x, h => by
    have : l = [] := List.eq_nil_of_length_eq_zero (by omega)
    subst this
    rw [blocks_nil, merge_even (by decide), List.nil_append, blocks_cons (by simp)]
    have : spl ([x].length + 1) = 1 := rfl
    rw [this]
    show [x] = rootV [x] :: blocksV []
    rw [root_one, blocks_nil]
  | N + 1, l, x, h => by
    by_cases h0 : 0 < l.length
    · obtain ⟨e, he, h1, h2⟩ := top_pow h0
      have hp := Nat.pow_pos (a := 2) (n := e) (by decide)
      have hd : (l.drop (2 ^ e)).length = l.length - 2 ^ e := List.length_drop
      have ih := blocks_snoc N (l.drop (2 ^ e)) x (by omega)
      have hbl := blocks_len _ (l.drop (2 ^ e)) (Nat.le_refl _)
      rw [hd] at ih hbl
      have hlen : (l ++ [x]).length = l.length + 1 := by simp
      have hdx : (l ++ [x]).drop (2 ^ e) = l.drop (2 ^ e) ++ [x] := List.drop_append_of_le_length (by omega)
      have htx : (l ++ [x]).take (2 ^ e) = l.take (2 ^ e) := List.take_append_of_le_length (by omega)
      rw [blocks_cons h0, he, List.cons_append]
      have hb : l.length = 2 ^ e + (l.length - 2 ^ e) := by omega
      by_cases hf : l.length + 1 < 2 * 2 ^ e
      · have e2 : spl ((l ++ [x]).length + 1) = 2 ^ e := by rw [hlen]; exact spl_of (by omega) (by rw [Nat.pow_succ]; omega)
        rw [blocks_cons (l := l ++ [x]) (by omega), e2, hdx, htx, ← ih]
        conv => lhs; rw [hb]
        exact merge_cons e _ _ _ (by omega) (by rw [List.length_append, List.length_singleton, hbl])
      · have hk : l.length - 2 ^ e = 2 ^ e - 1 := by omega
        have hn : l.length = 2 ^ (e + 1) - 1 := by rw [Nat.pow_succ]; omega
        have e2 : spl ((l ++ [x]).length + 1) = 2 ^ (e + 1) := by rw [hlen]; exact spl_of (by rw [Nat.pow_succ]; omega) (by rw [Nat.pow_succ, Nat.pow_succ]; omega)
        have e3 : spl (l ++ [x]).length = 2 ^ e := by rw [hlen]; exact spl_of (by omega) (by rw [Nat.pow_succ]; omega)
        have hone : ∀ {y : List Hs}, y.length = 2 ^ e → blocksV y = [rootV y] := fun {y} hy => by
          have e4 : spl (y.length + 1) = 2 ^ e := spl_of (by omega) (by rw [Nat.pow_succ]; omega)
          rw [blocks_cons (by omega), e4, List.take_of_length_le (by omega), List.drop_of_length_le (by omega), blocks_nil]
        rw [hk, hone (y := l.drop (2 ^ e) ++ [x]) (by rw [List.length_append, List.length_singleton, hd]; omega)] at ih
        rw [blocks_cons (l := l ++ [x]) (by omega), e2, List.take_of_length_le (l := l ++ [x]) (by rw [hlen]; omega), List.drop_of_length_le (l := l ++ [x]) (by rw [hlen]; omega), blocks_nil, root_two (l := l ++ [x]) (by omega), e3, hdx, htx]
        rw [hn]
        exact merge_full e _ _ _ (by rw [List.length_append, List.length_singleton, hbl, hk, ones_full]) ih
    · have : l = [] := List.eq_nil_of_length_eq_zero (by omega)
      subst this
      exact blocks_snoc 0 [] x (by simp)
/-- The root of the tree of a frontier. -/
def topV : List Hs → Hs
  | [] => sum []
  | [x] => x
  | x :: r => node x (topV r)
theorem top_cons {x : Hs} {r : List Hs} (h : r ≠ []) : topV (x :: r) = node x (topV r) := by
  cases r with
  | nil => exact absurd rfl h
  | cons y r => rfl
theorem top_blocks : ∀ (N : Nat) (l : List Hs), l.length ≤ N → topV (blocksV l) = rootV l
  | 0, l, h => by
    have : l = [] := List.eq_nil_of_length_eq_zero (by omega)
    subst this; rw [blocks_nil, root_nil]; rfl
  | N + 1, l, h => by
    by_cases h0 : 0 < l.length
    · obtain ⟨e, he, h1, h2⟩ := top_pow h0
      have hp := Nat.pow_pos (a := 2) (n := e) (by decide)
      have hd : (l.drop (2 ^ e)).length = l.length - 2 ^ e := List.length_drop
      have ih := top_blocks N (l.drop (2 ^ e)) (by omega)
      rw [blocks_cons h0, he]
      by_cases hb : l.length = 2 ^ e
      · rw [List.drop_of_length_le (by omega), blocks_nil, List.take_of_length_le (by omega)]; rfl
      · have hs : spl l.length = 2 ^ e := spl_of (by omega) (by rw [Nat.pow_succ]; omega)
        have hne : blocksV (l.drop (2 ^ e)) ≠ [] := by rw [blocks_cons (by omega)]; simp
        rw [top_cons hne, ih, root_two (l := l) (by omega), hs]
    · have : l = [] := List.eq_nil_of_length_eq_zero (by omega)
      subst this; rw [blocks_nil, root_nil]; rfl
end Go.Mk
