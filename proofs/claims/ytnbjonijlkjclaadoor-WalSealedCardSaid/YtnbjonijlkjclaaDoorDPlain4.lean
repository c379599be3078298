/- Disks in plain Lean: what the statements ask. -/
import Derived.Test.YtnbjonijlkjclaaDoorDPlain3
namespace Go.Dsk
open Go.Wk
structure Dk.calm (D : Dk) : Prop where
  off : D.off = false
  fuse : D.fuse = 0
theorem Dk.calm.spend {D : Dk} (h : D.calm) : D.spend = D := by unfold Dk.spend; rw [if_neg (by rw [h.fuse]; omega)]
theorem Dk.calm.flush {D : Dk} (h : D.calm) : D.flush = D.flushed := by
  unfold Dk.flush; rw [if_neg (by rw [h.off]; simp)]
  exact Dk.calm.spend ⟨h.off, h.fuse⟩
theorem Dk.calm.flushE {D : Dk} (h : D.calm) : D.flushE = 0 := by unfold Dk.flushE; rw [if_neg (by rw [h.off]; simp)]
theorem Dk.calm.errOf {D : Dk} (h : D.calm) {k : Int} (h0 : 0 ≤ k) (h1 : k < D.S.length) : D.errOf k = 0 := Dk.errOf_zero.2 ⟨h0, h1, h.off⟩
theorem Dk.calm.write {D : Dk} (h : D.calm) {k : Int} (h0 : 0 ≤ k) (h1 : k < D.S.length) {s : Sec} (hs : s.length = 64) : D.write k s = D.add k s := by
  unfold Dk.write; rw [if_pos ⟨hs, h.errOf h0 h1⟩]
  exact Dk.calm.spend ⟨h.off, h.fuse⟩
theorem Dk.calm.writeE {D : Dk} (h : D.calm) {k : Int} (h0 : 0 ≤ k) (h1 : k < D.S.length) {s : Sec} (hs : s.length = 64) : D.writeE k s = 0 := by unfold Dk.writeE; rw [if_pos hs, h.errOf h0 h1]
theorem fresh_calm (n : Nat) : (fresh n).calm := ⟨rfl, rfl⟩
theorem Dk.calm.restart (D : Dk) (ts : List Torn) : (D.restart ts).calm := ⟨rfl, rfl⟩
theorem Dk.calm.flushed {D : Dk} (h : D.calm) : D.flushed.calm := ⟨h.off, h.fuse⟩
theorem Dk.calm.add {D : Dk} (h : D.calm) (k : Int) (s : Sec) : (D.add k s).calm := ⟨h.off, h.fuse⟩
theorem flushed_len (D : Dk) : D.flushed.S.length = D.S.length := by simp [Dk.flushed]
theorem read_congr {D E : Dk} (hS : D.S = E.S) (ho : D.off = E.off) (k : Int) : D.read k = E.read k := by
  unfold Dk.read Dk.errOf Dk.at; rw [hS, ho]
theorem Dk.calm.read {D : Dk} (h : D.calm) {k : Nat} {l : List Sec} (hk : D.S[k]? = some l) : D.read k = (lst l, 0) := by
  have hlt := (List.getElem?_eq_some_iff.1 hk).1
  unfold Dk.read
  rw [if_pos (h.errOf (by omega) (by omega))]
  have : D.at (k : Int) = l := by unfold Dk.at; rw [Int.toNat_natCast, List.getD_eq_getElem?_getD, hk]; rfl
  rw [this]
/- fuses -/
structure Fz (mst i : Nat) (D : Dk) : Prop where
  on : i < mst → D.off = false ∧ D.fuse = (mst : Int) - i
  out : mst ≤ i → D.off = true
theorem Fz.start {D : Dk} (h : D.calm) (mst : Nat) : Fz mst 0 (D.blow mst) := by
  have e : D.blow mst = { D with fuse := if (mst : Int) < 0 then 0 else mst, off := decide ((mst : Int) = 0) } := if_neg (by rw [h.off]; simp)
  rw [e, if_neg (by omega)]
  exact ⟨fun hm => ⟨by simp; omega, by simp⟩, fun hm => by simp; omega⟩
theorem Fz.spend {mst i : Nat} {D : Dk} (h : Fz mst i D) (hi : i < mst) : Fz mst (i + 1) D.spend := by
  obtain ⟨h1, h2⟩ := h.on hi
  have e : D.spend = { D with fuse := D.fuse - 1, off := decide (D.fuse - 1 = 0) } := if_pos (by omega)
  rw [e]
  exact ⟨fun hm => ⟨by simp; omega, by simp; omega⟩, fun hm => by simp; omega⟩
theorem Fz.flush {mst i : Nat} {D : Dk} (h : Fz mst i D) : D.flushE = (if i < mst then 0 else 10) ∧ Fz mst (i + 1) D.flush := by
  by_cases hi : i < mst
  · obtain ⟨h1, h2⟩ := h.on hi
    have e : D.flush = D.flushed.spend := if_neg (by rw [h1]; simp)
    have h3 : Fz mst i D.flushed := ⟨fun _ => ⟨h1, h2⟩, fun hm => by omega⟩
    rw [if_pos hi, e]
    exact ⟨if_neg (by rw [h1]; simp), h3.spend hi⟩
  · have h1 := h.out (by omega)
    have e : D.flush = D := if_pos h1
    rw [if_neg hi, e]
    exact ⟨if_pos h1, fun hm => by omega, fun _ => h1⟩
theorem Fz.write {mst i : Nat} {D : Dk} (h : Fz mst i D) {k : Int} (h0 : 0 ≤ k) (hk : k < D.S.length) {s : Sec} (hs : s.length = 64) : D.writeE k s = (if i < mst then 0 else 10) ∧ Fz mst (i + 1) (D.write k s) := by
  have hw : D.writeE k s = D.errOf k := if_pos hs
  by_cases hi : i < mst
  · obtain ⟨h1, h2⟩ := h.on hi
    have he : D.errOf k = 0 := Dk.errOf_zero.2 ⟨h0, hk, h1⟩
    have e : D.write k s = (D.add k s).spend := if_pos ⟨hs, he⟩
    have h3 : Fz mst i (D.add k s) := ⟨fun _ => ⟨h1, h2⟩, fun hm => by omega⟩
    rw [if_pos hi, e, hw]
    exact ⟨he, h3.spend hi⟩
  · have h1 := h.out (by omega)
    have he : D.errOf k = 10 := by unfold Dk.errOf; rw [if_neg (by omega), if_pos h1]
    have e : D.write k s = D := if_neg (by omega)
    rw [if_neg hi, e, hw]
    exact ⟨he, fun hm => by omega, fun _ => h1⟩
theorem write_len (D : Dk) (k : Int) (s : Sec) : (D.write k s).S.length = D.S.length := by unfold Dk.write; split; rw [Dk.spend_S, Dk.add_len]; rfl
theorem flush_len (D : Dk) : D.flush.S.length = D.S.length := by unfold Dk.flush; split; rfl; rw [Dk.spend_S, flushed_len]
theorem blow_S (D : Dk) (n : Int) : (D.blow n).S = D.S := by unfold Dk.blow; split <;> rfl
/- restarts -/
theorem left_one (x : Sec) (o : Option Torn) : left [x] o = x := by cases o <;> simp [left, hd]
theorem restart_same {D : Dk} {ts us : List Torn} (h : ∀ k, k < D.S.length → firstOf ts k = firstOf us k) : D.restart ts = D.restart us := by
  have : (D.restart ts).S = (D.restart us).S := restart_eq (restart_len D ts) fun k l hk => by
    rw [restart_get hk, h k (List.getElem?_eq_some_iff.1 hk).1]
  unfold Dk.restart at *
  simp only [Dk.mk.injEq, and_true] at this ⊢
  exact this
theorem restart_twice (D : Dk) (ts us : List Torn) : (D.restart ts).restart us = D.restart ts := by
  have : ((D.restart ts).restart us).S = (D.restart ts).S := by
    apply List.ext_getElem?
    intro i
    cases hk : D.S[i]? with
    | none =>
      have h1 : D.S.length ≤ i := List.getElem?_eq_none_iff.1 hk
      rw [List.getElem?_eq_none (by rw [restart_len, restart_len]; omega), List.getElem?_eq_none (by rw [restart_len]; omega)]
    | some l => rw [restart_get (restart_get hk), restart_get hk, left_one]
  unfold Dk.restart at *
  simp only [Dk.mk.injEq, and_true] at this ⊢
  exact this
def allT (n : Nat) : List Torn := (List.range n).map fun (k : Nat) => { s := (k : Int), w := 1000, b := 0 }
theorem allT_succ (n : Nat) : allT (n + 1) = allT n ++ [⟨(n : Int), 1000, 0⟩] := by simp [allT, List.range_succ]
theorem firstOf_all {n k : Nat} (h : k < n) : firstOf (allT n) k = some ⟨k, 1000, 0⟩ := by
  induction n with
  | zero => omega
  | succ n ih =>
    unfold firstOf at *
    rw [allT_succ, List.find?_append]
    by_cases hk : k < n
    · rw [ih hk]; rfl
    · have e : k = n := by omega
      subst e
      have : List.find? (fun t => decide (t.s = (k : Int))) (allT k) = none := by
        rw [List.find?_eq_none]
        intro t ht
        obtain ⟨j, hj, rfl⟩ := List.mem_map.1 ht
        simp at hj ⊢; omega
      rw [this]; simp
theorem surv_all {l : List Sec} (h1 : 1 < l.length) (h2 : l.length ≤ 1000) : surv l 1000 0 = lst l := by
  have e : limit 1000 ((l.length : Int) - 1) = (l.length : Int) - 1 := by unfold limit; rw [if_neg (by omega)]; split <;> omega
  unfold surv
  simp only [e]
  have e2 : ((l.length : Int) - 1).toNat = l.length - 1 := by omega
  rw [e2, if_neg (by omega)]
  have := lst_get (l := l) (by intro h; rw [h] at h1; simp at h1)
  rw [nth, List.getD_eq_getElem?_getD, this]; rfl
theorem lst_one {l : List Sec} (h : l ≠ []) (h1 : ¬ 1 < l.length) : lst l = hd l := lst_tail_nil (by
  have := List.length_pos_iff.2 h
  exact List.eq_nil_of_length_eq_zero (by rw [List.length_tail]; omega))
theorem restart_all {D : Dk} {m : Nat} (h : D.ok m) (hm : m ≤ 1000) (hc : D.calm) : D.restart (allT D.S.length) = D.flush := by
  have : (D.restart (allT D.S.length)).S = D.flushed.S := by
    symm
    refine restart_eq (flushed_len D) fun k l hk => ?_
    obtain ⟨g1, g2, _⟩ := h.all l (mem_of hk)
    rw [firstOf_all (List.getElem?_eq_some_iff.1 hk).1]
    simp only [Dk.flushed, List.getElem?_map, hk, Option.map_some]
    congr 2
    unfold left
    by_cases h1 : 1 < l.length
    · simp only [if_pos h1]; exact (surv_all h1 (by omega)).symm
    · simp only [if_neg h1]; exact lst_one g1 h1
  rw [hc.flush]
  unfold Dk.restart Dk.flushed at *
  simp only [Dk.mk.injEq] at this ⊢
  exact ⟨this, hc.off.symm, hc.fuse.symm⟩
theorem flush_restart {D : Dk} (hc : D.calm) (ts : List Torn) : D.flush.restart ts = D.flush := by
  rw [hc.flush]
  have : (D.flushed.restart ts).S = D.flushed.S := by
    symm
    refine restart_eq rfl fun k l hk => ?_
    rw [hk]
    simp only [Dk.flushed, List.getElem?_map] at hk
    cases h : D.S[k]? with
    | none => rw [h] at hk; cases hk
    | some l0 => rw [h] at hk; simp at hk; subst hk; rw [left_one]
  unfold Dk.restart at *
  simp only at this
  have e1 := hc.flushed.off
  have e2 := hc.flushed.fuse
  cases hF : D.flushed with
  | mk S off fuse => rw [hF] at this e1 e2; simp only [Dk.mk.injEq]; exact ⟨this, e1.symm, e2.symm⟩
/- the first of each sector -/
def dd (ts : List Torn) : List Torn := ts.foldl (fun acc t => if t.s ∈ acc.map (·.s) then acc else acc ++ [t]) []
theorem dd_snoc (ts : List Torn) (t : Torn) : dd (ts ++ [t]) = if t.s ∈ (dd ts).map (·.s) then dd ts else dd ts ++ [t] := by simp [dd]
theorem dd_length (ts : List Torn) : (dd ts).length ≤ ts.length := by
  have key : ∀ n, (dd (ts.take n)).length ≤ n := by
    intro n
    induction n with
    | zero => simp [dd]
    | succ n ih =>
      by_cases hn : n < ts.length
      · rw [List.take_add_one, List.getElem?_eq_getElem hn, Option.toList_some, dd_snoc]
        split
        · omega
        · rw [List.length_append]; simp only [List.length_cons, List.length_nil]; omega
      · rw [List.take_of_length_le (by omega), ← List.take_of_length_le (i := n) (l := ts) (by omega)]; omega
  have := key ts.length
  rwa [List.take_length] at this
theorem dd_first (ts : List Torn) : ∀ k, firstOf (dd ts) k = firstOf ts k := by
  have key : ∀ n, ∀ k, firstOf (dd (ts.take n)) k = firstOf (ts.take n) k := by
    intro n
    induction n with
    | zero => intro k; simp [dd]
    | succ n ih =>
      intro k
      by_cases hn : n < ts.length
      · rw [List.take_add_one, List.getElem?_eq_getElem hn, Option.toList_some, dd_snoc]
        generalize ts[n] = t
        have hi := ih k
        unfold firstOf at *
        rw [List.find?_append, ← hi]
        split
        · rename_i hm
          by_cases hs : t.s = (k : Int)
          · cases hf : List.find? (fun t => decide (t.s = (k : Int))) (dd (ts.take n)) with
            | some u => rfl
            | none =>
              rw [List.find?_eq_none] at hf
              obtain ⟨u, hu, e⟩ := List.mem_map.1 hm
              have := hf u hu
              simp at this
              omega
          · simp [hs]
        · rw [List.find?_append]
      · rw [List.take_of_length_le (by omega), ← List.take_of_length_le (i := n) (l := ts) (by omega)]; exact ih k
  intro k
  have := key ts.length k
  rwa [List.take_length] at this
theorem dd_nodup (ts : List Torn) : ((dd ts).map (·.s)).Nodup := by
  have key : ∀ n, ((dd (ts.take n)).map (·.s)).Nodup := by
    intro n
    induction n with
    | zero => simp [dd]
    | succ n ih =>
      by_cases hn : n < ts.length
      · rw [List.take_add_one, List.getElem?_eq_getElem hn, Option.toList_some, dd_snoc]
        split
        · exact ih
        · rename_i h
          rw [List.map_append, List.nodup_append]
          refine ⟨ih, by simp, fun a ha b hb => ?_⟩
          simp at hb; subst hb
          exact fun e => h (e ▸ ha)
      · rw [List.take_of_length_le (by omega), ← List.take_of_length_le (i := n) (l := ts) (by omega)]; exact ih
  have := key ts.length
  rwa [List.take_length] at this
theorem first_iff {ts : List Torn} (h : (ts.map (·.s)).Nodup) {k : Nat} {t : Torn} : firstOf ts k = some t ↔ t ∈ ts ∧ t.s = (k : Int) := by
  unfold firstOf
  induction ts with
  | nil => simp
  | cons u ts ih =>
    rw [List.map_cons, List.nodup_cons] at h
    by_cases hu : u.s = (k : Int)
    · rw [List.find?_cons_of_pos (by simpa using hu), List.mem_cons]
      constructor
      · rintro ⟨rfl⟩; exact ⟨.inl rfl, hu⟩
      · rintro ⟨rfl | ht, hs⟩
        · rfl
        · exact absurd (hu.trans hs.symm ▸ List.mem_map_of_mem (f := fun (q : Torn) => q.s) ht) h.1
    · rw [List.find?_cons_of_neg (by simpa using hu), ih h.2, List.mem_cons]
      constructor
      · rintro ⟨a, b⟩; exact ⟨.inr a, b⟩
      · rintro ⟨rfl | ht, hs⟩
        · exact absurd hs hu
        · exact ⟨ht, hs⟩
theorem back_first {ts : List Torn} {n k : Nat} (hk : k < n) : firstOf ((dd ts).reverse ++ [⟨-1, 9, 0⟩, ⟨(n : Int), 0, 9⟩]) k = firstOf ts k := by
  have h1 : firstOf ((dd ts).reverse) k = firstOf (dd ts) k := by
    have hn := dd_nodup ts
    have hr : (((dd ts).reverse).map (·.s)).Nodup := by rw [List.map_reverse]; exact (List.reverse_perm _).nodup_iff.2 hn
    cases hf : firstOf (dd ts) k with
    | some t => exact (first_iff hr).2 (by have := (first_iff hn).1 hf; simpa using this)
    | none =>
      cases hg : firstOf (dd ts).reverse k with
      | none => rfl
      | some t =>
        have := (first_iff hr).1 hg
        have h2 := (first_iff hn (t := t) (k := k)).2 (by simpa using this)
        rw [h2] at hf; cases hf
  rw [← dd_first ts k, ← h1]
  unfold firstOf
  rw [List.find?_append]
  cases List.find? (fun t => decide (t.s = (k : Int))) (dd ts).reverse with
  | some t => rfl
  | none =>
    have h3 : ¬ ((-1 : Int) = (k : Int)) := by omega
    have h4 : ¬ ((n : Int) = (k : Int)) := by omega
    simp [h4]
theorem own_first (ts : List Torn) (k : Nat) : firstOf (ts.filter fun t => t.s = (k : Int)) k = firstOf ts k := by
  unfold firstOf
  rw [List.find?_filter]
  congr 1
  funext t
  simp
theorem restart_at {D : Dk} {ts us : List Torn} {k : Nat} (h : firstOf ts k = firstOf us k) (hk : k < D.S.length) : (D.restart ts).read k = (D.restart us).read k ∧ ((D.restart ts).read k).2 = 0 := by
  have e := List.getElem?_eq_getElem hk
  rw [Dk.calm.read (Dk.calm.restart D ts) (restart_get e), Dk.calm.read (Dk.calm.restart D us) (restart_get e), h]
  exact ⟨rfl, rfl⟩
end Go.Dsk
