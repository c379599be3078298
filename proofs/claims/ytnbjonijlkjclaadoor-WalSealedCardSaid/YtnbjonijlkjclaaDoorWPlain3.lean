/- Disks while the power stays on. -/
import Derived.Test.YtnbjonijlkjclaaDoorWPlain2
namespace Go.Wl
open Go.Wk Go.Dsk

theorem getD_set {α : Type} {l : List α} {i j : Nat} {x d : α} (h : i < l.length) : (l.set i x).getD j d = if j = i then x else l.getD j d := by
  by_cases e : j = i
  · subst e; rw [if_pos rfl, List.getD_eq_getElem?_getD, List.getElem?_set_self h]; rfl
  · rw [if_neg e, List.getD_eq_getElem?_getD, List.getElem?_set_ne (Ne.symm e), List.getD_eq_getElem?_getD]
theorem at_add {D : Dk} {k j : Int} {s : Sec} (h0 : 0 ≤ k) (h1 : k < D.S.length) (hj : 0 ≤ j) : (D.add k s).at j = if j = k then D.at k ++ [s] else D.at j := by
  unfold Dk.at Dk.add
  simp only
  rw [getD_set (by omega)]
  by_cases e : j = k
  · subst e; rw [if_pos rfl, if_pos rfl]; rfl
  · rw [if_neg (by omega), if_neg e]
theorem lst_snoc (l : List Sec) (s : Sec) : lst (l ++ [s]) = s := by simp [lst]
theorem now_add {D : Dk} {k j : Int} {s : Sec} (h0 : 0 ≤ k) (h1 : k < D.S.length) (hj : 0 ≤ j) : nowI (D.add k s) j = if j = k then s else nowI D j := by
  unfold nowI; rw [at_add h0 h1 hj]
  split
  · exact lst_snoc _ _
  · rfl
theorem at_flushed {D : Dk} {j : Int} (h0 : 0 ≤ j) (h1 : j < D.S.length) : D.flushed.at j = [nowI D j] := by
  have h : j.toNat < D.S.length := by omega
  unfold nowI Dk.at Dk.flushed
  simp only
  rw [List.getD_eq_getElem?_getD, List.getD_eq_getElem?_getD, List.getElem?_map, List.getElem?_eq_getElem h]; rfl
theorem now_flushed {D : Dk} {j : Int} (h0 : 0 ≤ j) (h1 : j < D.S.length) : nowI D.flushed j = nowI D j := by
  show lst (D.flushed.at j) = _
  rw [at_flushed h0 h1]; rfl
/-- Step on calm disks. -/
structure To (D E : Dk) (g : Int → Sec) : Prop where
  calm : E.calm
  len : E.S.length = D.S.length
  now : ∀ j : Int, 0 ≤ j → j < D.S.length → nowI E j = g j
theorem calm_write {D : Dk} (h : D.calm) {k : Int} {s : Sec} (h0 : 0 ≤ k) (h1 : k < D.S.length) (hs : s.length = 64) : D.writeE k s = 0 ∧ To D (D.write k s) (fun j => if j = k then s else nowI D j) := by
  rw [h.write h0 h1 hs]
  exact ⟨h.writeE h0 h1 hs, h.add _ _, Dk.add_len _ _ _, fun j hj _ => now_add h0 h1 hj⟩
theorem calm_flush {D : Dk} (h : D.calm) : D.flushE = 0 ∧ To D D.flush (nowI D) := by
  rw [h.flush]
  exact ⟨h.flushE, h.flushed, flushed_len _, fun j h0 h1 => now_flushed h0 h1⟩
theorem zloop_calm {f : Int} (hf : 0 ≤ f) : ∀ (k i : Nat) {D : Dk}, D.calm → f + i + k ≤ D.S.length → ∃ E, zloop f D i k = (E, true) ∧ To D E (fun j => if f + i ≤ j ∧ j < f + i + k then zsec else nowI D j)
  | 0, i, D, h, _ => ⟨D, rfl, h, rfl, fun j _ _ => (if_neg (by omega)).symm⟩
  | k + 1, i, D, h, hl => by
    obtain ⟨e1, t1⟩ := calm_write (s := zsec) h (k := f + i) (by omega) (by omega) (by simp [zsec])
    obtain ⟨E, e2, t2⟩ := zloop_calm hf k (i + 1) t1.calm (by rw [t1.len]; omega)
    refine ⟨E, by rw [zloop, if_neg (by rw [e1]; simp)]; exact e2, t2.calm, by rw [t2.len, t1.len], fun j h0 h1 => ?_⟩
    rw [t2.now j h0 (by rw [t1.len]; exact h1)]
    by_cases hj : j = f + i
    · rw [if_neg (by omega), t1.now j h0 h1, if_pos hj, if_pos (by omega)]
    · rw [t1.now j h0 h1, if_neg hj]
      by_cases h2 : f + i ≤ j ∧ j < f + i + (k + 1 : Nat)
      · rw [if_pos (by omega), if_pos h2]
      · rw [if_neg (by omega), if_neg h2]
theorem mod_two (t : UInt64) : (t % 2).toNat = t.toNat % 2 := by rw [UInt64.toNat_mod]; rfl
theorem putK_bd {f : Int} (t : UInt64) : f ≤ putK f t ∧ putK f t ≤ f + 1 := by
  have h := mod_two t
  unfold putK; omega
theorem put_calm {D : Dk} (h : D.calm) {f : Int} (hf : 0 ≤ f) (hl : f + 2 ≤ D.S.length) (t s : UInt64) : putE D f t s = 0 ∧ To D (putD D f t s) (fun j => if j = putK f t then putS t s else nowI D j) := by
  obtain ⟨k0, k1⟩ := putK_bd (f := f) t
  obtain ⟨e1, t1⟩ := calm_write (s := putS t s) h (k := putK f t) (by omega) (by omega) (sec_len _)
  obtain ⟨e2, t2⟩ := calm_flush t1.calm
  obtain ⟨a, b⟩ := put_okk (D := D) (f := f) (t := t) (s := s) (by rw [e1]; simp) (by rw [e2]; simp)
  rw [a]
  exact ⟨b, t2.calm, by rw [t2.len, t1.len], fun j h0 h1 => by rw [t2.now j h0 (by rw [t1.len]; exact h1), t1.now j h0 h1]⟩
theorem fmt_calm {D : Dk} (h : D.calm) {f n : Int} (hv : checkV D f n = 0) : (fmtR D f n).2 = 0 ∧ To D (fmtR D f n).1 (fun j => if j = f + 1 then putS 1 0 else if f ≤ j ∧ j < f + n then zsec else nowI D j) := by
  obtain ⟨h4, h0, h1, h2, _⟩ := checkV_zero.1 hv
  obtain ⟨N, rfl⟩ := Int.eq_ofNat_of_zero_le (show 0 ≤ n by omega)
  obtain ⟨E, e1, t1⟩ := zloop_calm h0 N 0 h (by omega)
  obtain ⟨e2, t2⟩ := calm_flush t1.calm
  obtain ⟨e3, t3⟩ := put_calm t2.calm h0 (by rw [t2.len, t1.len]; omega) 1 0
  rw [fmtR_p hv e1 (by rw [e2]; simp)]
  refine ⟨e3, t3.calm, by rw [t3.len, t2.len, t1.len], fun j h0 h1 => ?_⟩
  have hk : putK f 1 = f + 1 := by unfold putK; rw [mod_two]; rfl
  rw [t3.now j h0 (by rw [t2.len, t1.len]; exact h1), t2.now j h0 (by rw [t1.len]; exact h1), t1.now j h0 h1, hk]
  by_cases e : j = f + 1
  · rw [if_pos e, if_pos e]
  · rw [if_neg e, if_neg e]
    by_cases e2 : f ≤ j ∧ j < f + N
    · rw [if_pos (by omega), if_pos e2]
    · rw [if_neg (by omega), if_neg e2]
theorem fresh_now {n : Nat} {j : Int} (h0 : 0 ≤ j) (h1 : j < n) : nowI (fresh n) j = zsec := by
  have h : j.toNat < n := by omega
  unfold nowI Dk.at fresh
  simp only
  rw [List.getD_eq_getElem?_getD, List.getElem?_replicate, if_pos h]; rfl
theorem rdU_zero : rdU (c1 zsec) = (0, 0) ∧ rdU (c2 zsec) = (0, 0) := by rw [zsec_mark.1, zsec_mark.2]; decide
theorem betU_zero (x : Mk) : betU x zsec = x := if_neg fun h => by
  rw [rdU_zero.1] at h
  have := UInt64.lt_iff_toNat_lt.1 h.2
  simp at this
/-- No mark: the log cannot be opened. -/
theorem nw_zero {D : Dk} {f : Int} (h0 : nowI D f = zsec) (h1 : nowI D (f + 1) = zsec) : nwE D f = 7 := by
  have e : nwI D f 2 = (0, 0) := by
    show betU (betU (0, 0) (nowI D (f + (0 : Nat)))) (nowI D (f + (1 : Nat))) = _
    rw [show f + ((0 : Nat) : Int) = f from by omega, show f + ((1 : Nat) : Int) = f + 1 from by omega, h0, h1, betU_zero, betU_zero]
  unfold nwE; rw [e]; rfl
end Go.Wl
