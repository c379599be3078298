/- Logs on disks that may fail: what stands in the region. -/
import Derived.Test.YtnbjonijlkjclaaDoorWPlain3
namespace Go.Wl
open Go.Wk Go.Dsk

/- 1. SECTOR BY SECTOR -/
theorem at_spend (D : Dk) (j : Int) : D.spend.at j = D.at j := by unfold Dk.at; rw [Dk.spend_S]
theorem at_blow (D : Dk) (n j : Int) : (D.blow n).at j = D.at j := by unfold Dk.at; rw [blow_S]
theorem writeE_on {D : Dk} {k : Int} {s : Sec} (h0 : 0 ≤ k) (h1 : k < D.S.length) (hs : s.length = 64) (hon : D.off = false) : D.writeE k s = 0 := by unfold Dk.writeE; rw [if_pos hs]; exact Dk.errOf_zero.2 ⟨h0, h1, hon⟩
theorem writeE_off {D : Dk} {k : Int} {s : Sec} (h0 : 0 ≤ k) (h1 : k < D.S.length) (hs : s.length = 64) (h : D.writeE k s ≠ 0) : D.off = true := by
  cases hb : D.off with
  | true => rfl
  | false => exact absurd (writeE_on h0 h1 hs hb) h
theorem at_write {D : Dk} {k j : Int} {s : Sec} (h0 : 0 ≤ k) (h1 : k < D.S.length) (hs : s.length = 64) (hw : ¬ D.writeE k s ≠ 0) (hj : 0 ≤ j) : (D.write k s).at j = if j = k then D.at k ++ [s] else D.at j := by
  have he : D.errOf k = 0 := by unfold Dk.writeE at hw; rw [if_pos hs] at hw; omega
  unfold Dk.write
  rw [if_pos ⟨hs, he⟩, at_spend, at_add h0 h1 hj]
theorem at_write_ne {D : Dk} {k j : Int} {s : Sec} (hj : 0 ≤ j) (h0 : 0 ≤ k) (h1 : k < D.S.length) (hne : j ≠ k) : (D.write k s).at j = D.at j := by
  unfold Dk.write
  split
  · rw [at_spend, at_add h0 h1 hj, if_neg hne]
  · rfl
theorem at_flush (D : Dk) (hoff : D.off = false) {j : Int} (h0 : 0 ≤ j) (h1 : j < D.S.length) : D.flush.at j = [nowI D j] := by
  unfold Dk.flush; rw [if_neg (by rw [hoff]; decide), at_spend, at_flushed h0 h1]
theorem at_out {D : Dk} {j : Int} (h1 : (D.S.length : Int) ≤ j) : D.at j = [] := by
  unfold Dk.at
  rw [List.getD_eq_getElem?_getD, List.getElem?_eq_none (by omega)]; rfl
theorem at_flush_cases (D : Dk) {j : Int} (h0 : 0 ≤ j) : D.flush.at j = D.at j ∨ j < D.S.length ∧ D.flush.at j = [lst (D.at j)] := by
  cases hoff : D.off with
  | true => left; unfold Dk.flush; rw [if_pos hoff]
  | false =>
    by_cases h1 : j < D.S.length
    · exact .inr ⟨h1, at_flush D hoff h0 h1⟩
    · left; rw [at_out (D := D) (by omega), at_out (D := D.flush) (by rw [flush_len]; omega)]
theorem at_ne {D : Dk} {m : Nat} (h : D.ok m) {j : Int} (h0 : 0 ≤ j) (h1 : j < D.S.length) : D.at j ≠ [] := (h.all _ (mem_of (Dk.at_mem h0 h1))).1
theorem flushE_on {D : Dk} (h : D.off = false) : D.flushE = 0 := by unfold Dk.flushE; rw [if_neg (by rw [h]; decide)]
theorem flushE_offz {D : Dk} (h : D.flushE ≠ 0) : D.off = true := by
  cases hb : D.off with
  | true => rfl
  | false => exact absurd (flushE_on hb) h
/-- Outside of a region a disk is as it was, or flushed. -/
def Frm (D E : Dk) (f n : Int) : Prop := ∀ j : Int, 0 ≤ j → (j < f ∨ f + n ≤ j) → E.at j = D.at j ∨ (j < D.S.length ∧ E.at j = [lst (D.at j)])
theorem Frm.refl (D : Dk) (f n : Int) : Frm D D f n := fun _ _ _ => .inl rfl
theorem lst_one' (x : Sec) : lst [x] = x := rfl
theorem Frm.trans {D E F : Dk} {f n : Int} (h : Frm D E f n) (h2 : Frm E F f n) (hl : E.S.length = D.S.length) : Frm D F f n := fun j h0 hj => by
  rcases h j h0 hj with e1 | ⟨l1, e1⟩ <;> rcases h2 j h0 hj with e2 | ⟨l2, e2⟩
  · exact .inl (e2.trans e1)
  · exact .inr ⟨by omega, by rw [e2, e1]⟩
  · exact .inr ⟨l1, e2.trans e1⟩
  · exact .inr ⟨l1, by rw [e2, e1, lst_one']⟩
theorem Frm.flush (D : Dk) (f n : Int) : Frm D D.flush f n := fun _ h0 _ => at_flush_cases D h0
theorem Frm.write {D : Dk} {f n k : Int} (s : Sec) (h0 : 0 ≤ k) (h1 : k < D.S.length) (hf : f ≤ k) (hn : k < f + n) : Frm D (D.write k s) f n := fun _ hj h => .inl (at_write_ne hj h0 h1 (by omega))
theorem Frm.one {D E : Dk} {f n : Int} (h : Frm D E f n) {j : Int} {x : Sec} (h0 : 0 ≤ j) (hj : j < f ∨ f + n ≤ j) (e : D.at j = [x]) : E.at j = [x] := by
  rcases h j h0 hj with e1 | ⟨_, e1⟩
  · rw [e1, e]
  · rw [e1, e, lst_one']
theorem Frm.mem {D E : Dk} {f n : Int} {m : Nat} (h : Frm D E f n) (hD : D.ok m) {j : Int} (h0 : 0 ≤ j) (hj : j < f ∨ f + n ≤ j) {v : Sec} (hv : v ∈ E.at j) : v ∈ D.at j := by
  rcases h j h0 hj with e1 | ⟨l1, e1⟩
  · rwa [e1] at hv
  · rw [e1, List.mem_singleton] at hv; rw [hv]; exact lst_mem (at_ne hD h0 l1)

/- 2. WHAT STANDS IN A REGION -/
def mkK (f : Int) (t : Nat) : Int := f + ((t % 2 : Nat) : Int)
theorem mkK_bd (f : Int) (t : Nat) : f ≤ mkK f t ∧ mkK f t ≤ f + 1 := by unfold mkK; omega
theorem mkK_ne (f : Int) (t : Nat) : mkK f t ≠ mkK f (t + 1) := by unfold mkK; omega
theorem mkK_two (f : Int) (t : Nat) : mkK f (t + 1 + 1) = mkK f t := by unfold mkK; omega
theorem putK_mk (f : Int) (t : UInt64) : putK f t = mkK f t.toNat := by unfold putK mkK; rw [mod_two]
/-- Every version of the data sectors agrees with these bytes. -/
def HeldI (D : Dk) (f : Int) (p : List UInt8) : Prop := ∀ q j : Nat, j < 64 → 64 * q + j < p.length → ∀ v ∈ D.at (f + 2 + q), v[j]? = p[64 * q + j]?
theorem HeldI.pre {D : Dk} {f : Int} {p q : List UInt8} (h : HeldI D f q) (hp : p <+: q) : HeldI D f p := fun i j hj hl v hv => by
  obtain ⟨r, rfl⟩ := hp
  rw [h i j hj (by rw [List.length_append]; omega) v hv, List.getElem?_append_left hl]
theorem HeldI.nil (D : Dk) (f : Int) : HeldI D f [] := fun i j _ h => by simp at h
theorem HeldI.of {D E : Dk} {f : Int} {p : List UInt8} (h : HeldI D f p) (hs : ∀ q : Nat, 64 * q < p.length → ∀ v ∈ E.at (f + 2 + q), v ∈ D.at (f + 2 + q)) : HeldI E f p := fun q j hj hl v hv => h q j hj hl v (hs q (by omega) v hv)
/-- All is durable: these records, and turn t. -/
structure Reg (D : Dk) (f : Int) (t : Nat) (pre : List (List UInt8)) : Prop where
  m : D.at (mkK f t) = [markS t (enc pre).length]
  o : ∃ o, D.at (mkK f (t + 1)) = [o] ∧ Weak t o
  h : HeldI D f (enc pre)
/-- A mark of other records is not yet durable. -/
structure Pen (D : Dk) (f : Int) (t : Nat) (pre new : List (List UInt8)) : Prop where
  m : D.at (mkK f t) = [markS t (enc pre).length]
  o : ∃ o, D.at (mkK f (t + 1)) = [o, markS (t + 1) (enc new).length] ∧ Weak t o
  h : HeldI D f (enc pre)
  h2 : HeldI D f (enc new)
theorem Reg.frame {D E : Dk} {f n f2 n2 : Int} {t m : Nat} {pre : List (List UInt8)} (h : Reg D f2 t pre) (hF : Frm D E f n) (hD : D.ok m) (h0 : 0 ≤ f2) (h4 : 4 ≤ n2) (hd : f2 + n2 ≤ f ∨ f + n ≤ f2) (hl : ((enc pre).length : Int) ≤ 64 * (n2 - 2)) : Reg E f2 t pre := by
  have b1 := mkK_bd f2 t
  have b2 := mkK_bd f2 (t + 1)
  obtain ⟨o, ho, hw⟩ := h.o
  refine ⟨hF.one (by omega) (by omega) h.m, ⟨o, hF.one (by omega) (by omega) ho, hw⟩, h.h.of fun q hq v hv => hF.mem hD (by omega) ?_ hv⟩
  rcases hd with hd | hd
  · left; omega
  · right; omega
theorem Pen.frame {D E : Dk} {f n f2 n2 : Int} {t m : Nat} {pre new : List (List UInt8)} (h : Pen D f2 t pre new) (hF : Frm D E f n) (hS : ∀ j : Int, 0 ≤ j → (j < f ∨ f + n ≤ j) → E.at j = D.at j) (hD : D.ok m) (h0 : 0 ≤ f2) (_h4 : 4 ≤ n2) (hd : f2 + n2 ≤ f ∨ f + n ≤ f2) (hl : ((enc pre).length : Int) ≤ 64 * (n2 - 2)) (hl2 : ((enc new).length : Int) ≤ 64 * (n2 - 2)) : Pen E f2 t pre new := by
  have b1 := mkK_bd f2 t
  have b2 := mkK_bd f2 (t + 1)
  obtain ⟨o, ho, hw⟩ := h.o
  refine ⟨hF.one (by omega) (by omega) h.m, ⟨o, by rw [hS _ (by omega) (by omega)]; exact ho, hw⟩, h.h.of fun q hq v hv => hF.mem hD (by omega) ?_ hv, h.h2.of fun q hq v hv => hF.mem hD (by omega) ?_ hv⟩
  · rcases hd with hd | hd
    · left; omega
    · right; omega
  · rcases hd with hd | hd
    · left; omega
    · right; omega

/- 3. RESTARTS -/
theorem at_get {D : Dk} {j : Int} (h0 : 0 ≤ j) (h1 : j < D.S.length) : D.S[j.toNat]? = some (D.at j) := Dk.at_mem h0 h1
theorem restart_at' {D : Dk} (ts : List Torn) {j : Int} (h0 : 0 ≤ j) (h1 : j < D.S.length) : (D.restart ts).at j = [left (D.at j) (firstOf ts j.toNat)] := by
  have e := restart_get (ts := ts) (at_get h0 h1)
  unfold Dk.at at e ⊢
  rw [List.getD_eq_getElem?_getD, e]; rfl
theorem restart_one {D : Dk} (ts : List Torn) {j : Int} {x : Sec} (h0 : 0 ≤ j) (h1 : j < D.S.length) (e : D.at j = [x]) : (D.restart ts).at j = [x] := by rw [restart_at' ts h0 h1, e, left_one]
theorem take_drop_get {x y : List UInt8} {k j : Nat} (hx : x.length = 64) (hy : y.length = 64) : (x.take k ++ y.drop k)[j]? = x[j]? ∨ (x.take k ++ y.drop k)[j]? = y[j]? := by
  by_cases h : j < min k 64
  · left
    rw [List.getElem?_append_left (by rw [List.length_take]; omega), List.getElem?_take_of_lt (by omega)]
  · right
    rw [List.getElem?_append_right (by rw [List.length_take]; omega), List.getElem?_drop, List.length_take, hx]
    by_cases h2 : k ≤ 64
    · rw [show k + (j - min k 64) = j from by omega]
    · rw [List.getElem?_eq_none (by omega), List.getElem?_eq_none (by omega)]
/-- What a restart leaves of a sector: a version, or a mix of two versions that follow one another. -/
theorem left_mix {l : List Sec} (o : Option Torn) (hl : l ≠ []) : (∃ v ∈ l, left l o = v) ∨ ∃ (i k : Nat), i + 1 < l.length ∧ left l o = (nth l (i + 1)).take k ++ (nth l i).drop k := by
  have hh : ∃ v ∈ l, hd l = v := ⟨_, hd_mem hl, rfl⟩
  cases o with
  | none => exact .inl hh
  | some t =>
    unfold left
    simp only
    split
    · unfold surv
      simp only
      split
      · exact .inr ⟨_, _, by assumption, rfl⟩
      · refine .inl ⟨_, nth_mem ?_, rfl⟩
        obtain ⟨q1, q2⟩ := limit_bd (n := t.w) (most := (l.length : Int) - 1) (by have := List.length_pos_iff.2 hl; omega)
        have := List.length_pos_iff.2 hl
        omega
    · exact .inl hh
theorem left_two {a b : Sec} (ha : a.length = 64) (hb : b.length = 64) (o : Option Torn) : ∃ k, left [a, b] o = b.take k ++ a.drop k := by
  rcases left_mix o (l := [a, b]) (by simp) with ⟨v, hv, e⟩ | ⟨i, k, hi, e⟩
  · rw [e]
    simp at hv
    rcases hv with rfl | rfl
    · exact ⟨0, by simp⟩
    · exact ⟨64, by rw [List.take_of_length_le (by omega), List.drop_of_length_le (by omega), List.append_nil]⟩
  · have : i = 0 := by simp at hi; omega
    subst this
    exact ⟨k, e⟩
theorem HeldI.restart {D : Dk} {f : Int} {p : List UInt8} {m : Nat} (h : HeldI D f p) (hD : D.ok m) (h0 : 0 ≤ f) (ts : List Torn) : HeldI (D.restart ts) f p := fun q j hj hl v hv => by
  by_cases h1 : f + 2 + (q : Int) < D.S.length
  · rw [restart_at' ts (by omega) h1, List.mem_singleton] at hv
    obtain ⟨g1, g2, g3⟩ := hD.all _ (mem_of (at_get (D := D) (j := f + 2 + q) (by omega) h1))
    rcases left_mix (firstOf ts (f + 2 + (q : Int)).toNat) g1 with ⟨w, hw, e⟩ | ⟨i, k, hi, e⟩
    · rw [hv, e]; exact h q j hj hl w hw
    · have m1 := nth_mem hi
      have m2 := nth_mem (Nat.lt_of_succ_lt hi)
      rw [hv, e]
      rcases take_drop_get (k := k) (j := j) (g3 _ m1) (g3 _ m2) with e' | e'
      · rw [e']; exact h q j hj hl _ m1
      · rw [e']; exact h q j hj hl _ m2
  · rw [at_out (by rw [restart_len]; omega)] at hv
    cases hv
theorem HeldI.now {D : Dk} {f : Int} {p : List UInt8} {m : Nat} (h : HeldI D f p) (hD : D.ok m) (h0 : 0 ≤ f) (hl : f + 2 + ((p.length + 63) / 64 : Nat) ≤ D.S.length) {q j : Nat} (hj : j < 64) (hq : 64 * q + j < p.length) : (nowI D (f + 2 + q))[j]? = p[64 * q + j]? :=
  h q j hj hq _ (lst_mem (at_ne hD (by omega) (by omega)))

/- 4. MARKS OF 64 BITS -/
def toN (x : Mk) : Nat × Nat := (x.1.toNat, x.2.toNat)
theorem toN_inj {x y : Mk} (h : toN x = toN y) : x = y := by
  obtain ⟨a, b⟩ := x; obtain ⟨c, d⟩ := y
  obtain ⟨h1, h2⟩ := Prod.mk.inj h
  exact Prod.ext (UInt64.toNat_inj.1 h1) (UInt64.toNat_inj.1 h2)
theorem toN_rd (b : List UInt8) : toN (rdU b) = rd b := by
  have h1 := lev_lt (b.take 8)
  have h2 := lev_lt ((b.drop 8).take 8)
  have k1 : 256 ^ (b.take 8).length ≤ 256 ^ 8 := Nat.pow_le_pow_right (by decide) (by rw [List.length_take]; omega)
  have k2 : 256 ^ ((b.drop 8).take 8).length ≤ 256 ^ 8 := Nat.pow_le_pow_right (by decide) (by rw [List.length_take]; omega)
  unfold toN rdU rd
  rw [UInt64.toNat_ofNat', UInt64.toNat_ofNat', Nat.mod_eq_of_lt (by omega), Nat.mod_eq_of_lt (by omega)]
theorem toN_bet (x : Mk) (s : Sec) : toN (betU x s) = better (toN x) s := by
  unfold betU better
  rw [← toN_rd, ← toN_rd]
  by_cases h : rdU (c1 s) = rdU (c2 s) ∧ x.1 < (rdU (c1 s)).1
  · rw [if_pos h, if_pos ⟨congrArg toN h.1, UInt64.lt_iff_toNat_lt.1 h.2⟩]
  · rw [if_neg h, if_neg fun e => h ⟨toN_inj e.1, UInt64.lt_iff_toNat_lt.2 e.2⟩]
theorem nw_toN (D : Dk) (f : Int) : toN (nwI D f 2) = better (better (0, 0) (nowI D f)) (nowI D (f + 1)) := by
  show toN (betU (betU (0, 0) (nowI D (f + (0 : Nat)))) (nowI D (f + (1 : Nat)))) = _
  rw [toN_bet, toN_bet, show f + ((0 : Nat) : Int) = f from by omega, show f + ((1 : Nat) : Int) = f + 1 from by omega]; rfl
/-- The newest mark is this one. -/
theorem nw_of {D : Dk} {f : Int} {t s : Nat} (ht : t ≠ 0) (h : toN (nwI D f 2) = (t, s)) : nwE D f = 0 ∧ (nwM D f).1.toNat = t ∧ (nwM D f).2.toNat = s := by
  obtain ⟨h1, h2⟩ := Prod.mk.inj h
  have hne : ¬ (nwI D f 2).1 = 0 := fun e => ht (by rw [← h1, e]; rfl)
  unfold nwE nwM
  rw [if_neg hne, if_neg hne]
  exact ⟨rfl, h1, h2⟩
theorem better_zero_lt {x : Nat × Nat} {T : Nat} {o : Sec} (h : better (0, 0) o = x) (hw : Weak T o) (hT : 0 < T) : x.1 < T := by
  subst h
  rcases better_weak0 hw with h | h
  · exact h
  · rw [h]; exact hT
/-- One sector holds a mark, the other one a weak one. -/
theorem nw_weak {D : Dk} {f : Int} {t s : Nat} {o : Sec} (h1 : nowI D (mkK f t) = markS t s) (h2 : nowI D (mkK f (t + 1)) = o) (ho : Weak t o) (ht0 : 0 < t) (ht : t < 2 ^ 64) (hs : s < 2 ^ 64) : toN (nwI D f 2) = (t, s) := by
  rw [nw_toN]
  by_cases h : t % 2 = 0
  · have e1 : mkK f t = f := by unfold mkK; omega
    have e2 : mkK f (t + 1) = f + 1 := by unfold mkK; omega
    rw [e1] at h1; rw [e2] at h2
    rw [h1, h2, better_mark ht hs ht0, better_weak ho]
  · have e1 : mkK f t = f + 1 := by unfold mkK; omega
    have e2 : mkK f (t + 1) = f := by unfold mkK; omega
    rw [e1] at h1; rw [e2] at h2
    rw [h1, h2, better_mark ht hs (better_zero_lt rfl ho ht0)]
theorem nw_bad {D : Dk} {f : Int} {t s : Nat} {o : Sec} (h1 : nowI D (mkK f t) = markS t s) (h2 : nowI D (mkK f (t + 1)) = o) (ho : rd (c1 o) ≠ rd (c2 o)) (ht0 : 0 < t) (ht : t < 2 ^ 64) (hs : s < 2 ^ 64) : toN (nwI D f 2) = (t, s) := by
  rw [nw_toN]
  by_cases h : t % 2 = 0
  · have e1 : mkK f t = f := by unfold mkK; omega
    have e2 : mkK f (t + 1) = f + 1 := by unfold mkK; omega
    rw [e1] at h1; rw [e2] at h2
    rw [h1, h2, better_mark ht hs ht0, better_bad ho]
  · have e1 : mkK f t = f + 1 := by unfold mkK; omega
    have e2 : mkK f (t + 1) = f := by unfold mkK; omega
    rw [e1] at h1; rw [e2] at h2
    rw [h1, h2, better_bad ho, better_mark ht hs ht0]
theorem nw_new {D : Dk} {f : Int} {t s s' : Nat} {o : Sec} (h1 : nowI D (mkK f t) = markS t s) (h2 : nowI D (mkK f (t + 1)) = o) (ho : c1 o = cp (t + 1) s') (ho2 : c2 o = cp (t + 1) s') (ht0 : 0 < t) (ht : t + 1 < 2 ^ 64) (hs : s < 2 ^ 64) (hs' : s' < 2 ^ 64) : toN (nwI D f 2) = (t + 1, s') := by
  rw [nw_toN]
  by_cases h : t % 2 = 0
  · have e1 : mkK f t = f := by unfold mkK; omega
    have e2 : mkK f (t + 1) = f + 1 := by unfold mkK; omega
    rw [e1] at h1; rw [e2] at h2
    rw [h1, h2, better_mark (by omega) hs ht0, better_new ht hs' ho ho2 (by simp only; omega)]
  · have e1 : mkK f t = f + 1 := by unfold mkK; omega
    have e2 : mkK f (t + 1) = f := by unfold mkK; omega
    rw [e1] at h1; rw [e2] at h2
    rw [h1, h2, better_new ht hs' ho ho2 (by simp only; omega)]
    exact better_low (t := t) (s := s) (by omega) hs (c1_mark t s) (by simp only; omega)
theorem now_one {D : Dk} {j : Int} {x : Sec} (h : D.at j = [x]) : nowI D j = x := by unfold nowI; rw [h]; rfl
/-- A region that can be opened. -/
structure Can (D : Dk) (f n : Int) (T : Nat) (rs : List (List UInt8)) : Prop where
  fits : Fits D f n rs
  turn : (nwM D f).1.toNat = T
theorem Reg.can {D : Dk} {f n : Int} {t m : Nat} {pre : List (List UInt8)} (h : Reg D f t pre) (hD : D.ok m) (h0 : 0 ≤ f) (hn : f + n ≤ D.S.length) (hl : ((enc pre).length : Int) ≤ 64 * (n - 2)) (hs : n ≤ 100000) (ht0 : 0 < t) (ht : t + 1 < 2 ^ 64) : Can D f n t pre := by
  obtain ⟨o, ho, hw⟩ := h.o
  obtain ⟨e1, e2, e3⟩ := nw_of (by omega) (nw_weak (now_one h.m) (now_one ho) hw ht0 (by omega) (by omega))
  exact ⟨⟨e1, e3, hl, fun q j hj hq => h.h.now hD h0 (by omega) hj hq⟩, e2⟩
theorem Reg.restart {D : Dk} {f : Int} {t m : Nat} {pre : List (List UInt8)} (h : Reg D f t pre) (hD : D.ok m) (h0 : 0 ≤ f) (hn : f + 2 ≤ D.S.length) (ts : List Torn) : Reg (D.restart ts) f t pre := by
  have b1 := mkK_bd f t
  have b2 := mkK_bd f (t + 1)
  obtain ⟨o, ho, hw⟩ := h.o
  exact ⟨restart_one ts (by omega) (by omega) h.m, ⟨o, restart_one ts (by omega) (by omega) ho, hw⟩, h.h.restart hD h0 ts⟩
theorem Pen.restart {D : Dk} {f n : Int} {t m : Nat} {pre new : List (List UInt8)} (h : Pen D f t pre new) (hD : D.ok m) (hm : 1 ≤ m) (h0 : 0 ≤ f) (hn : f + n ≤ D.S.length) (hn4 : 4 ≤ n) (hl : ((enc pre).length : Int) ≤ 64 * (n - 2)) (hl2 : ((enc new).length : Int) ≤ 64 * (n - 2)) (hs : n ≤ 100000) (ht0 : 0 < t) (ht : t + 2 < 2 ^ 64) (ts : List Torn) :
    Can (D.restart ts) f n t pre ∨ Can (D.restart ts) f n (t + 1) new := by
  have b1 := mkK_bd f t
  have b2 := mkK_bd f (t + 1)
  obtain ⟨o, ho, hw⟩ := h.o
  have hR := hD.restart hm ts
  have hlen := restart_len D ts
  have g1 := restart_one ts (by omega) (by omega) h.m
  have hpre : ∀ q j : Nat, j < 64 → 64 * q + j < (enc pre).length → (nowI (D.restart ts) (f + 2 + q))[j]? = (enc pre)[64 * q + j]? := fun q j hj hq => (h.h.restart hD h0 ts).now hR h0 (by omega) hj hq
  have hnew : ∀ q j : Nat, j < 64 → 64 * q + j < (enc new).length → (nowI (D.restart ts) (f + 2 + q))[j]? = (enc new)[64 * q + j]? := fun q j hj hq => (h.h2.restart hD h0 ts).now hR h0 (by omega) hj hq
  have g2 := restart_at' ts (D := D) (j := mkK f (t + 1)) (by omega) (by omega)
  rw [ho] at g2
  obtain ⟨k, hk⟩ := left_two hw.1 (sec_len (markB (t + 1) (enc new).length)) (firstOf ts (mkK f (t + 1)).toNat)
  change left [o, markS (t + 1) (enc new).length] _ = (markS (t + 1) (enc new).length).take k ++ o.drop k at hk
  rw [hk] at g2
  rcases torn_mark (T := t) (t := t + 1) (s := (enc new).length) (j := k) hw (by omega) (by omega) (by omega) with hx | hx | ⟨hx, hx2⟩
  · obtain ⟨e1, e2, e3⟩ := nw_of (by omega) (nw_weak (now_one g1) (now_one g2) hx ht0 (by omega) (by omega))
    exact .inl ⟨⟨e1, e3, hl, hpre⟩, e2⟩
  · obtain ⟨e1, e2, e3⟩ := nw_of (by omega) (nw_bad (now_one g1) (now_one g2) hx ht0 (by omega) (by omega))
    exact .inl ⟨⟨e1, e3, hl, hpre⟩, e2⟩
  · obtain ⟨e1, e2, e3⟩ := nw_of (by omega) (nw_new (now_one g1) (now_one g2) hx hx2 ht0 (by omega) (by omega) (by omega))
    exact .inr ⟨⟨e1, e3, hl2, hnew⟩, e2⟩
end Go.Wl
