/- What the acts on a log leave on a disk that may fail. -/
import Derived.Test.YtnbjonijlkjclaaDoorWPlain4
namespace Go.Wl
open Go.Wk Go.Dsk

/- 1. LOGS THAT ARE WHAT THEY SHOULD BE -/
def dur (g : Lg) : List (List UInt8) := g.recs.take g.synced.toNat
structure Good (g : Lg) : Prop where
  f0 : 0 ≤ g.f
  f1 : g.f ≤ 10000
  n0 : 4 ≤ g.n
  n1 : g.n ≤ 10000
  data : g.data = enc g.recs
  used : g.used = usedV g.recs
  fit : (usedV g.recs : Int) ≤ 64 * (g.n - 2)
  each : ∀ r ∈ g.recs, r.length ≤ 4000
  s0 : 0 ≤ g.synced
  s1 : g.synced ≤ g.recs.length
  size : g.size.toNat = (enc (dur g)).length
theorem enc_le (rs : List (List UInt8)) : (enc rs).length ≤ usedV rs := by have := enc_len rs; omega
theorem recs_le (rs : List (List UInt8)) : rs.length ≤ usedV rs := by have := enc_len rs; have := enc_ge rs; omega
theorem pre_len {a b : List UInt8} (h : a <+: b) : a.length ≤ b.length := h.length_le
theorem Good.dle {g : Lg} (_h : Good g) : (enc (dur g)).length ≤ (enc g.recs).length := pre_len (enc_take_pre _ _)
theorem Good.ok {g : Lg} (h : Good g) : LgOk g := by
  have a1 := h.f0; have a2 := h.f1; have a3 := h.n0; have a4 := h.n1; have a5 := h.fit; have a6 := h.s0; have a7 := h.s1
  have b1 := enc_le g.recs; have b2 := recs_le g.recs
  have hd : g.data.length = (enc g.recs).length := by rw [h.data]
  refine ⟨a1, by omega, a3, by omega, by omega, by omega, by rw [h.used]; omega, by rw [h.used]; omega, a6, by omega, ?_⟩
  rw [h.size, hd]; exact h.dle
theorem Good.fit2 {g : Lg} (h : Good g) : ((enc g.recs).length : Int) ≤ 64 * (g.n - 2) := by have := enc_le g.recs; have := h.fit; omega
theorem Good.fitd {g : Lg} (h : Good g) : ((enc (dur g)).length : Int) ≤ 64 * (g.n - 2) := by have := h.dle; have := h.fit2; omega

/- 2. A MARK IS PUT -/
theorem put_thm {D : Dk} {f n : Int} {t m : Nat} {pre new : List (List UInt8)} (hD : D.ok m) (hR : Reg D f t pre) (hnew : HeldI D f (enc new)) (hon : D.off = false) (h0 : 0 ≤ f) (h4 : 4 ≤ n) (hn : f + n ≤ D.S.length) (hl : ((enc new).length : Int) ≤ 64 * (n - 2)) (hpl : (enc pre).length < 2 ^ 64) (ht : t < 2 ^ 64) {T S : UInt64} (hT : T.toNat = t + 1) (hS : S.toNat = (enc new).length) :
    Frm D (putD D f T S) f n ∧ (putD D f T S).S.length = D.S.length ∧ (D.calm → (putD D f T S).calm ∧ putE D f T S = 0) ∧ ((putE D f T S = 0 ∧ Reg (putD D f T S) f (t + 1) new) ∨ (putE D f T S = 10 ∧ (putD D f T S).off = true ∧ Pen (putD D f T S) f t pre new)) := by
  have hK : putK f T = mkK f (t + 1) := by rw [putK_mk, hT]
  have hP : putS T S = markS (t + 1) (enc new).length := by unfold putS; rw [hT, hS]
  have b1 := mkK_bd f t
  have b2 := mkK_bd f (t + 1)
  have bne := mkK_ne f t
  have hsl : (putS T S).length = 64 := sec_len _
  have hw : ¬ D.writeE (putK f T) (putS T S) ≠ 0 := fun h => h (writeE_on (by omega) (by omega) hsl hon)
  obtain ⟨D1, hD1⟩ : ∃ D1, D.write (putK f T) (putS T S) = D1 := ⟨_, rfl⟩
  have hlen1 : D1.S.length = D.S.length := by rw [← hD1, write_len]
  have hat : ∀ j : Int, 0 ≤ j → D1.at j = if j = putK f T then D.at (putK f T) ++ [putS T S] else D.at j := fun j hj => by rw [← hD1]; exact at_write (by omega) (by omega) hsl hw hj
  have hF1 : Frm D D1 f n := by rw [← hD1]; exact Frm.write _ (by omega) (by omega) (by omega) (by omega)
  have hdat : ∀ q : Nat, D1.at (f + 2 + q) = D.at (f + 2 + q) := fun q => by rw [hat _ (by omega), if_neg (by omega)]
  obtain ⟨o, ho, hwk⟩ := hR.o
  have hPen : Pen D1 f t pre new := ⟨by rw [hat _ (by omega), if_neg (by omega)]; exact hR.m, ⟨o, by rw [hat _ (by omega), if_pos hK.symm, hK, ho, hP]; rfl, hwk⟩, hR.h.of fun q _ v hv => by rwa [hdat] at hv, hnew.of fun q _ v hv => by rwa [hdat] at hv⟩
  have hput : putD D f T S = D1.flush := by rw [← hD1]; exact if_neg hw
  have hcalm : D.calm → D1.calm := fun h => by rw [← hD1, h.write (by omega) (by omega) hsl]; exact h.add _ _
  rw [hput]
  refine ⟨hF1.trans (Frm.flush _ _ _) hlen1, by rw [flush_len, hlen1], fun h => ?_, ?_⟩
  · have h1 := hcalm h
    refine ⟨by rw [h1.flush]; exact h1.flushed, ?_⟩
    unfold putE; rw [if_neg hw, hD1, if_neg (by rw [h1.flushE]; simp)]
  · cases hoff : D1.off with
    | false =>
      left
      refine ⟨by unfold putE; rw [if_neg hw, hD1, if_neg (by rw [flushE_on hoff]; simp)], ?_, ⟨markS t (enc pre).length, ?_, weak_mark (by omega) ht hpl⟩, ?_⟩
      · rw [at_flush D1 hoff (by omega) (by omega)]
        obtain ⟨o', ho', _⟩ := hPen.o
        unfold nowI; rw [ho']; rfl
      · rw [mkK_two, at_flush D1 hoff (by omega) (by omega)]
        unfold nowI; rw [hPen.m]; rfl
      · refine fun q j hj hq v hv => ?_
        by_cases h1 : f + 2 + (q : Int) < D1.S.length
        · rw [at_flush D1 hoff (by omega) h1, List.mem_singleton] at hv
          rw [hv]
          exact hPen.h2 q j hj hq _ (lst_mem (at_ne (hD1 ▸ hD.write _ _ : D1.ok (m + 1)) (by omega) h1))
        · exfalso; omega
    | true =>
      right
      have e : D1.flush = D1 := by unfold Dk.flush; rw [if_pos hoff]
      rw [e]
      exact ⟨by unfold putE; rw [if_neg hw, hD1, if_pos (by unfold Dk.flushE; rw [if_pos hoff]; decide)], hoff, hPen⟩

/- 3. THE DATA IS WRITTEN -/
theorem wloop_thm {f : Int} {data : List UInt8} (h0 : 0 ≤ f) : ∀ (k q : Nat) {D : Dk} {m : Nat}, D.ok m → f + 2 + q + k ≤ D.S.length →
    (wloop f data D q k).1.S.length = D.S.length ∧ (wloop f data D q k).1.ok (m + k) ∧ (D.calm → (wloop f data D q k).1.calm ∧ (wloop f data D q k).2 = true) ∧ ((wloop f data D q k).2 = false → (wloop f data D q k).1.off = true)
    ∧ (∀ j : Int, 0 ≤ j → (j < f + 2 + q ∨ f + 2 + q + k ≤ j) → (wloop f data D q k).1.at j = D.at j)
    ∧ (∀ i : Nat, q ≤ i → i < q + k → ∀ v ∈ (wloop f data D q k).1.at (f + 2 + i), v ∈ D.at (f + 2 + i) ∨ v = sec (chunkAt data i))
    ∧ ((wloop f data D q k).2 = true → ∀ i : Nat, q ≤ i → i < q + k → nowI (wloop f data D q k).1 (f + 2 + i) = sec (chunkAt data i))
  | 0, q, D, m, hD, _ => ⟨rfl, hD, fun h => ⟨h, rfl⟩, fun h => (by cases h), fun _ _ _ => rfl, fun i h1 h2 => by omega, fun _ i h1 h2 => by omega⟩
  | k + 1, q, D, m, hD, hl => by
    have hsl : (sec (chunkAt data q)).length = 64 := sec_len _
    by_cases hw : D.writeE (f + 2 + q) (sec (chunkAt data q)) ≠ 0
    · have e : wloop f data D q (k + 1) = (D, false) := by rw [wloop, if_pos hw]
      have hoff := writeE_off (by omega) (by omega) hsl hw
      rw [e]
      exact ⟨rfl, hD.mono (by omega), fun h => absurd (h.writeE (by omega) (by omega) hsl) hw, fun _ => hoff, fun _ _ _ => rfl, fun i _ _ v hv => .inl hv, fun h => (by cases h)⟩
    · have e : wloop f data D q (k + 1) = wloop f data (D.write (f + 2 + q) (sec (chunkAt data q))) (q + 1) k := by rw [wloop, if_neg hw]
      obtain ⟨D1, hD1⟩ : ∃ D1, D.write (f + 2 + q) (sec (chunkAt data q)) = D1 := ⟨_, rfl⟩
      have hlen1 : D1.S.length = D.S.length := by rw [← hD1, write_len]
      have hat : ∀ j : Int, 0 ≤ j → D1.at j = if j = f + 2 + q then D.at (f + 2 + q) ++ [sec (chunkAt data q)] else D.at j := fun j hj => by rw [← hD1]; exact at_write (by omega) (by omega) hsl hw hj
      obtain ⟨a1, a2, a3, a4, a5, a6, a7⟩ := wloop_thm (f := f) (data := data) h0 k (q + 1) (hD1 ▸ hD.write _ _ : D1.ok (m + 1)) (by omega)
      rw [e, hD1]
      refine ⟨a1.trans hlen1, a2.mono (by omega), fun h => a3 (by rw [← hD1, h.write (by omega) (by omega) hsl]; exact h.add _ _), a4, fun j hj hj2 => ?_, fun i h1 h2 v hv => ?_, fun h i h1 h2 => ?_⟩
      · rw [a5 j hj (by omega), hat j hj, if_neg (by omega)]
      · by_cases hi : i = q
        · subst hi
          rw [a5 _ (by omega) (by omega), hat _ (by omega), if_pos rfl, List.mem_append, List.mem_singleton] at hv
          exact hv
        · rcases a6 i (by omega) (by omega) v hv with hv | hv
          · rw [hat _ (by omega), if_neg (by omega)] at hv; exact .inl hv
          · exact .inr hv
      · by_cases hi : i = q
        · subst hi
          unfold nowI
          rw [a5 _ (by omega) (by omega), hat _ (by omega), if_pos rfl, lst_snoc]
        · exact a7 h i (by omega) (by omega)
theorem sec_chunk {data : List UInt8} {q j : Nat} (hj : j < 64) (hl : 64 * q + j < data.length) : (sec (chunkAt data q))[j]? = data[64 * q + j]? := by
  have hc : j < (chunkAt data q).length := by rw [chunkAt, List.length_take, List.length_drop]; omega
  rw [sec, List.getElem?_take_of_lt hj, List.getElem?_append_left hc, chunkAt, List.getElem?_take_of_lt hj, List.getElem?_drop]

/- 4. SYNC -/
structure Synced (g : Lg) (D : Dk) (r : Lg × Dk × Int) : Prop where
  frm : Frm D r.2.1 g.f g.n
  len : r.2.1.S.length = D.S.length
  calm : D.calm → r.2.1.calm ∧ r.2.2 = 0
  res : (r.2.2 = 0 ∧ Good r.1 ∧ r.1.f = g.f ∧ r.1.n = g.n ∧ r.1.recs = g.recs ∧ r.1.synced = g.recs.length ∧ g.turn.toNat ≤ r.1.turn.toNat ∧ r.1.turn.toNat ≤ g.turn.toNat + 1 ∧ Reg r.2.1 g.f r.1.turn.toNat g.recs)
    ∨ (r.2.2 = 10 ∧ r.1 = g ∧ r.2.1.off = true ∧ (Reg r.2.1 g.f g.turn.toNat (dur g) ∨ Pen r.2.1 g.f g.turn.toNat (dur g) g.recs))
theorem dur_all {g : Lg} (h : g.synced = g.recs.length) : dur g = g.recs := by unfold dur; rw [h]; exact List.take_of_length_le (by omega)
theorem wcnt_le {g : Lg} (hg : Good g) : (wcnt g : Int) + g.size.toNat / 64 ≤ g.n - 2 ∨ wcnt g = 0 := by
  have h1 := hg.fit2
  have h2 : g.data.length = (enc g.recs).length := by rw [hg.data]
  unfold wcnt; omega
theorem sync_thm {g : Lg} {D : Dk} {m : Nat} (hg : Good g) (hD : D.ok m) (hon : D.off = false) (hn : g.f + g.n ≤ D.S.length) (hR : Reg D g.f g.turn.toNat (dur g)) (ht : g.turn.toNat + 2 < 2 ^ 64) : Synced g D (syncR g D) := by
  have f0 := hg.f0; have n0 := hg.n0; have n1 := hg.n1
  by_cases hs : g.synced = g.recs.length
  · rw [syncR_none hon hs]
    exact ⟨Frm.refl _ _ _, rfl, fun h => ⟨h, rfl⟩, .inl ⟨rfl, hg, rfl, rfl, rfl, hs, Nat.le_refl _, Nat.le_succ _, by have := hR; rwa [dur_all hs] at this⟩⟩
  have hdl : g.data.length = (enc g.recs).length := by rw [hg.data]
  have hfit := hg.fit2
  have hsz := hg.size
  have hdle := hg.dle
  have hq0 : g.size.toNat / 64 + wcnt g = (g.data.length + 63) / 64 ∨ wcnt g = 0 ∧ (g.data.length + 63) / 64 ≤ g.size.toNat / 64 := by unfold wcnt; omega
  obtain ⟨a1, a2, a3, a4, a5, a6, a7⟩ := wloop_thm (f := g.f) (data := g.data) f0 (wcnt g) (g.size.toNat / 64) hD (by omega)
  change (wl g D).1.S.length = _ at a1
  change (wl g D).1.ok _ at a2
  change D.calm → (wl g D).1.calm ∧ (wl g D).2 = true at a3
  change (wl g D).2 = false → (wl g D).1.off = true at a4
  have a5 : ∀ j : Int, 0 ≤ j → (j < g.f + 2 + (g.size.toNat / 64 : Nat) ∨ g.f + 2 + (g.size.toNat / 64 : Nat) + wcnt g ≤ j) → (wl g D).1.at j = D.at j := a5
  have a6 : ∀ i : Nat, g.size.toNat / 64 ≤ i → i < g.size.toNat / 64 + wcnt g → ∀ v ∈ (wl g D).1.at (g.f + 2 + i), v ∈ D.at (g.f + 2 + i) ∨ v = sec (chunkAt g.data i) := a6
  have a7 : (wl g D).2 = true → ∀ i : Nat, g.size.toNat / 64 ≤ i → i < g.size.toNat / 64 + wcnt g → nowI (wl g D).1 (g.f + 2 + i) = sec (chunkAt g.data i) := a7
  obtain ⟨E, b, hE⟩ : ∃ E b, wl g D = (E, b) := ⟨_, _, rfl⟩
  rw [hE] at a1 a2 a3 a4 a5 a6 a7
  simp only at a1 a2 a3 a4 a5 a6 a7
  have hpre : enc (dur g) <+: g.data := by rw [hg.data]; exact enc_take_pre _ _
  have hFE : Frm D E g.f g.n := fun j h0 hj => .inl (a5 j h0 (by omega))
  have bk1 := mkK_bd g.f g.turn.toNat
  have bk2 := mkK_bd g.f (g.turn.toNat + 1)
  have hRE : Reg E g.f g.turn.toNat (dur g) := by
    obtain ⟨o, ho, hw⟩ := hR.o
    refine ⟨by rw [a5 _ (by omega) (by omega)]; exact hR.m, ⟨o, by rw [a5 _ (by omega) (by omega)]; exact ho, hw⟩, fun q j hj hq v hv => ?_⟩
    by_cases hi : g.size.toNat / 64 ≤ q ∧ q < g.size.toNat / 64 + wcnt g
    · rcases a6 q hi.1 hi.2 v hv with hv | hv
      · exact hR.h q j hj hq v hv
      · obtain ⟨r, hr⟩ := hpre
        rw [hv, sec_chunk hj (by omega), ← hr, List.getElem?_append_left hq]
    · rw [a5 _ (by omega) (by omega)] at hv
      exact hR.h q j hj hq v hv
  cases b with
  | false =>
    have hoff := a4 rfl
    rw [syncR_w hon hs hE]
    exact ⟨hFE, a1, fun h => absurd (a3 h).2 (by decide), .inr ⟨rfl, rfl, hoff, .inl hRE⟩⟩
  | true =>
    by_cases hfl : E.flushE ≠ 0
    · have hoff := flushE_offz hfl
      have e : E.flush = E := flushE_ne hfl
      rw [syncR_f hon hs hE hfl, e]
      exact ⟨hFE, a1, fun h => absurd (a3 h).1.flushE hfl, .inr ⟨rfl, rfl, hoff, .inl hRE⟩⟩
    have hEon : E.off = false := by
      cases hb : E.off with
      | false => rfl
      | true => exact absurd (by unfold Dk.flushE; rw [if_pos hb]; decide) hfl
    have hlenF : E.flush.S.length = D.S.length := by rw [flush_len, a1]
    have hRF : Reg E.flush g.f g.turn.toNat (dur g) := by
      obtain ⟨o, ho, hw⟩ := hRE.o
      refine ⟨?_, ⟨o, ?_, hw⟩, fun q j hj hq v hv => ?_⟩
      · rw [at_flush E hEon (by omega) (by omega)]; unfold nowI; rw [hRE.m]; rfl
      · rw [at_flush E hEon (by omega) (by omega)]; unfold nowI; rw [ho]; rfl
      · rw [at_flush E hEon (by omega) (by omega), List.mem_singleton] at hv
        rw [hv]; exact hRE.h q j hj hq _ (lst_mem (at_ne a2 (by omega) (by omega)))
    have hHF : HeldI E.flush g.f (enc g.recs) := fun q j hj hq v hv => by
      rw [at_flush E hEon (by omega) (by omega), List.mem_singleton] at hv
      by_cases hi : g.size.toNat / 64 ≤ q
      · rw [hv, a7 rfl q hi (by omega), sec_chunk hj (by omega), hg.data]
      · obtain ⟨r, hr⟩ := hpre
        have hlt : 64 * q + j < (enc (dur g)).length := by omega
        rw [hv, show nowI E (g.f + 2 + q) = lst (E.at (g.f + 2 + q)) from rfl, hRE.h q j hj hlt _ (lst_mem (at_ne a2 (by omega) (by omega))), ← hg.data, ← hr, List.getElem?_append_left hlt]
    have hFF : Frm D E.flush g.f g.n := hFE.trans (Frm.flush _ _ _) a1
    by_cases hEc : E.flush.off = false
    · have hT : (syT g).toNat = g.turn.toNat + 1 := by unfold syT; rw [UInt64.toNat_add]; simp; omega
      have hS : (syS g).toNat = (enc g.recs).length := by unfold syS; rw [UInt64.toNat_ofNat', hdl]; omega
      obtain ⟨p1, p2, p3, p4⟩ := put_thm (a2.flush (by have := (a2.all _ (mem_of (at_get (D := E) (j := g.f) f0 (by omega)))); have := List.length_pos_iff.2 this.1; omega)) hRF hHF hEc f0 n0 (by omega) hfit (by omega) (by omega) hT hS
      have hFP := hFF.trans p1 hlenF
      rcases p4 with ⟨p4, p5⟩ | ⟨p4, p5, p6⟩
      · rw [syncR_ok hon hs hE hfl p4]
        refine ⟨hFP, p2.trans hlenF, fun h => ⟨(p3 (by rw [(a3 h).1.flush]; exact (a3 h).1.flushed)).1, rfl⟩, .inl ⟨rfl, ?_, rfl, rfl, rfl, rfl, by show g.turn.toNat ≤ (syT g).toNat; omega, by show (syT g).toNat ≤ g.turn.toNat + 1; omega, by show Reg _ g.f (syT g).toNat g.recs; rw [hT]; exact p5⟩⟩
        refine ⟨hg.f0, hg.f1, hg.n0, hg.n1, hg.data, hg.used, hg.fit, hg.each, by show (0 : Int) ≤ g.recs.length; omega, Int.le_refl _, ?_⟩
        show (syS g).toNat = (enc (g.recs.take ((g.recs.length : Int)).toNat)).length
        rw [hS, List.take_of_length_le (by omega)]
      · rw [syncR_p hon hs hE hfl (by rw [p4]; decide)]
        exact ⟨hFP, p2.trans hlenF, fun h => absurd (p3 (by rw [(a3 h).1.flush]; exact (a3 h).1.flushed)).2 (by rw [p4]; decide), .inr ⟨rfl, rfl, p5, .inr p6⟩⟩
    · have hoff : E.flush.off = true := by simpa using hEc
      have hne : E.flush.writeE (putK g.f (syT g)) (putS (syT g) (syS g)) ≠ 0 := by
        have hk := putK_bd (f := g.f) (syT g)
        unfold Dk.writeE; rw [if_pos (show (putS (syT g) (syS g)).length = 64 from sec_len _)]
        intro h
        have := (Dk.errOf_zero.1 h).2.2
        rw [hoff] at this; cases this
      obtain ⟨q1, q2⟩ := put_err1 hne
      rw [syncR_p hon hs hE hfl (by rw [q2]; decide), q1]
      refine ⟨hFF, hlenF, fun h => ?_, .inr ⟨rfl, rfl, hoff, .inl hRF⟩⟩
      have := (a3 h).1.flush
      rw [this] at hoff
      rw [(a3 h).1.flushed.off] at hoff; cases hoff
theorem syncR_dok {g : Lg} {D : Dk} {m : Nat} (hg : Good g) (hD : D.ok m) (hm : 1 ≤ m) (hn : g.f + g.n ≤ D.S.length) : (syncR g D).2.1.ok (m + g.n.toNat + 2) := by
  have f0 := hg.f0; have n0 := hg.n0
  have hw : (wl g D).1.ok (m + wcnt g) := by
    have hdl : g.data.length = (enc g.recs).length := by rw [hg.data]
    have hfit := hg.fit2
    have hsz := hg.size
    have hdle := hg.dle
    exact (wloop_thm (f := g.f) (data := g.data) f0 (wcnt g) (g.size.toNat / 64) hD (by unfold wcnt; omega)).2.1
  have hc : wcnt g ≤ g.n.toNat := by have := wcnt_le hg; omega
  have hf : (wl g D).1.flush.ok (m + wcnt g) := hw.flush (by omega)
  unfold syncR
  split
  · exact hD.mono (by omega)
  split
  · exact hD.mono (by omega)
  split
  · exact hw.mono (by omega)
  split
  · exact hf.mono (by omega)
  split
  · exact (putD_ok hf _ _ _).mono (by omega)
  · exact (putD_ok hf _ _ _).mono (by omega)

/- 5. RESET -/
theorem enc_zero : (enc []).length = 0 := rfl
structure Resetted (g : Lg) (D : Dk) (r : Lg) (E : Dk) (e : Int) : Prop where
  frm : Frm D E g.f g.n
  len : E.S.length = D.S.length
  calm : D.calm → E.calm ∧ e = 0
  res : (e = 0 ∧ Good r ∧ r.f = g.f ∧ r.n = g.n ∧ r.recs = [] ∧ r.synced = 0 ∧ r.turn.toNat = g.turn.toNat + 1 ∧ Reg E g.f (g.turn.toNat + 1) []) ∨ (e = 10 ∧ r = g ∧ E.off = true ∧ Pen E g.f g.turn.toNat (dur g) [])
theorem reset_thm {g : Lg} {D : Dk} {m : Nat} (hg : Good g) (hD : D.ok m) (hon : D.off = false) (hn : g.f + g.n ≤ D.S.length) (hR : Reg D g.f g.turn.toNat (dur g)) (ht : g.turn.toNat + 2 < 2 ^ 64) :
    Resetted g D (resetL g D) (putD D g.f (g.turn + 1) 0) (putE D g.f (g.turn + 1) 0) := by
  have f0 := hg.f0; have n0 := hg.n0; have n1 := hg.n1; have hfd := hg.fitd
  have hT : (g.turn + 1).toNat = g.turn.toNat + 1 := by rw [UInt64.toNat_add]; simp; omega
  obtain ⟨p1, p2, p3, p4⟩ := put_thm (new := []) hD hR (HeldI.nil _ _) hon f0 n0 hn (by rw [enc_zero]; omega) (by omega) (by omega) hT (S := 0) rfl
  refine ⟨p1, p2, p3, ?_⟩
  rcases p4 with ⟨p4, p5⟩ | ⟨p4, p5, p6⟩
  · left
    rw [resetL_ok p4]
    exact ⟨p4, ⟨hg.f0, hg.f1, hg.n0, hg.n1, rfl, rfl, by show ((0 : Nat) : Int) ≤ 64 * (g.n - 2); omega, fun r hr => (by cases hr), Int.le_refl _, Int.le_refl _, rfl⟩, rfl, rfl, rfl, rfl, hT, p5⟩
  · right
    rw [resetL_err (by rw [p4]; decide)]
    exact ⟨p4, rfl, p5, p6⟩

/- 6. APPEND -/
def roomR (n : Int) (rs : List (List UInt8)) : Int := max (-1) (min 4000 (64 * (n - 2) - usedV rs - 12))
def appR (n : Int) (rs : List (List UInt8)) (rec : List UInt8) : Int := if 4000 < (rec.length : Int) then 2 else if roomR n rs < rec.length then 9 else 0
theorem room_eq {g : Lg} (hg : Good g) : roomV g = roomR g.n g.recs := by unfold roomV roomR; rw [hg.used]
theorem app_eq {g : Lg} {D : Dk} {rec : List UInt8} (hg : Good g) (hon : D.off = false) : appE g D rec = appR g.n g.recs rec := by
  unfold appE appR; rw [room_eq hg, if_neg (c := D.off = true) (by rw [hon]; decide)]
theorem appR_cases (n : Int) (rs : List (List UInt8)) (rec : List UInt8) : appR n rs rec = 0 ∨ appR n rs rec = 2 ∨ appR n rs rec = 9 := by
  unfold appR; split
  · exact .inr (.inl rfl)
  · split
    · exact .inr (.inr rfl)
    · exact .inl rfl
theorem appR_zero {n : Int} {rs : List (List UInt8)} {rec : List UInt8} (h : appR n rs rec = 0) : rec.length ≤ 4000 ∧ (rec.length : Int) ≤ roomR n rs := by
  unfold appR at h
  split at h
  · cases h
  · split at h
    · cases h
    · omega
theorem room_pos {n : Int} {rs : List (List UInt8)} {k : Nat} (h : (k : Int) ≤ roomR n rs) : (usedV rs : Int) + k + 12 ≤ 64 * (n - 2) := by unfold roomR at h; omega
theorem app_thm {g : Lg} {D : Dk} {rec : List UInt8} (hg : Good g) (h : appE g D rec = 0) (hon : D.off = false) : Good (appL g D rec) ∧ (appL g D rec).f = g.f ∧ (appL g D rec).n = g.n ∧ (appL g D rec).recs = g.recs ++ [rec] ∧ (appL g D rec).synced = g.synced ∧ (appL g D rec).turn = g.turn ∧ dur (appL g D rec) = dur g := by
  have h2 := app_eq (rec := rec) hg hon
  rw [h] at h2
  obtain ⟨k1, k2⟩ := appR_zero h2.symm
  have k3 := room_pos k2
  have s0 := hg.s0
  have s1 := hg.s1
  have hdur : (g.recs ++ [rec]).take g.synced.toNat = dur g := List.take_append_of_le_length (by omega)
  rw [appL_ok h]
  refine ⟨⟨hg.f0, hg.f1, hg.n0, hg.n1, ?_, ?_, ?_, ?_, hg.s0, ?_, ?_⟩, rfl, rfl, rfl, rfl, rfl, hdur⟩
  · show g.data ++ leb 4 rec.length ++ rec = enc (g.recs ++ [rec])
    rw [enc_snoc, hg.data, List.append_assoc]
  · show g.used + (rec.length + 12) = ((usedV (g.recs ++ [rec]) : Nat) : Int)
    rw [used_snoc, hg.used]; omega
  · show ((usedV (g.recs ++ [rec]) : Nat) : Int) ≤ _
    rw [used_snoc]; show _ ≤ 64 * (g.n - 2); omega
  · intro r hr
    rcases List.mem_append.1 hr with hr | hr
    · exact hg.each r hr
    · rw [List.mem_singleton] at hr; rw [hr]; exact k1
  · show g.synced ≤ ((g.recs ++ [rec]).length : Nat)
    rw [List.length_append, List.length_singleton]; omega
  · show g.size.toNat = (enc ((g.recs ++ [rec]).take g.synced.toNat)).length
    rw [hdur]; exact hg.size

/- 7. FORMAT -/
theorem put_flat {D : Dk} (h : D.calm) {f : Int} (hf : 0 ≤ f) (hl : f + 2 ≤ D.S.length) (t s : UInt64) {j : Int} (h0 : 0 ≤ j) (h1 : j < D.S.length) : (putD D f t s).at j = [nowI (putD D f t s) j] := by
  obtain ⟨k0, k1⟩ := putK_bd (f := f) t
  have hw := h.writeE (k := putK f t) (s := putS t s) (by omega) (by omega) (sec_len _)
  have e : putD D f t s = (D.write (putK f t) (putS t s)).flush := if_neg (by rw [hw]; simp)
  have hc : (D.write (putK f t) (putS t s)).calm := by rw [h.write (by omega) (by omega) (show (putS t s).length = 64 from sec_len _)]; exact h.add _ _
  have hlen := write_len D (putK f t) (putS t s)
  rw [e, at_flush _ hc.off h0 (by omega)]
  unfold nowI
  rw [at_flush _ hc.off h0 (by omega)]; rfl
theorem fmt_flat {D : Dk} (h : D.calm) {f n : Int} (hv : checkV D f n = 0) {j : Int} (h0 : 0 ≤ j) (h1 : j < D.S.length) : (fmtR D f n).1.at j = [nowI (fmtR D f n).1 j] := by
  obtain ⟨h4, g0, g1, g2, _⟩ := checkV_zero.1 hv
  obtain ⟨N, rfl⟩ := Int.eq_ofNat_of_zero_le (show 0 ≤ n by omega)
  obtain ⟨E, e1, t1⟩ := zloop_calm g0 N 0 h (by omega)
  obtain ⟨e2, t2⟩ := calm_flush t1.calm
  rw [fmtR_p hv e1 (by rw [e2]; simp)]
  have := t1.len; have := t2.len
  exact put_flat t2.calm g0 (by omega) 1 0 h0 (by omega)
theorem fmt_frm {D : Dk} (h : D.calm) {f n : Int} (hv : checkV D f n = 0) : Frm D (fmtR D f n).1 f n := fun j h0 hj => by
  obtain ⟨h4, g0, g1, g2, _⟩ := checkV_zero.1 hv
  obtain ⟨_, T⟩ := fmt_calm h hv
  by_cases h1 : j < D.S.length
  · right
    refine ⟨h1, ?_⟩
    rw [fmt_flat h hv h0 h1, T.now j h0 h1, if_neg (by omega), if_neg (by omega)]; rfl
  · left
    rw [at_out (D := D) (by omega), at_out (D := (fmtR D f n).1) (by rw [T.len]; omega)]
theorem fmt_reg {D : Dk} (h : D.calm) {f n : Int} (hv : checkV D f n = 0) : Reg (fmtR D f n).1 f 1 [] := by
  obtain ⟨h4, g0, g1, g2, _⟩ := checkV_zero.1 hv
  obtain ⟨_, T⟩ := fmt_calm h hv
  refine ⟨?_, ⟨zsec, ?_, weak_zero (by decide)⟩, HeldI.nil _ _⟩
  · have e : mkK f 1 = f + 1 := by unfold mkK; omega
    rw [e, fmt_flat h hv (by omega) (by omega), T.now _ (by omega) (by omega), if_pos rfl]; rfl
  · have e : mkK f (1 + 1) = f := by unfold mkK; omega
    rw [e, fmt_flat h hv (by omega) (by omega), T.now _ (by omega) (by omega), if_neg (by omega), if_pos (by omega)]
theorem lg0_good {f : Int} {n : Int} (h0 : 0 ≤ f) (h1 : f ≤ 10000) (h2 : 4 ≤ n) (h3 : n ≤ 10000) : Good (lg0 f n 1 0) :=
  ⟨h0, h1, h2, h3, rfl, rfl, by show ((0 : Nat) : Int) ≤ 64 * (n - 2); omega, fun r hr => (by cases hr), Int.le_refl _, Int.le_refl _, rfl⟩
theorem lgO_good {D : Dk} {f n : Int} {rs : List (List UInt8)} (h0 : 0 ≤ f) (h1 : f ≤ 10000) (h2 : 4 ≤ n) (h3 : n ≤ 10000) (hF : Fits D f n rs) (hu : (usedV rs : Int) ≤ 64 * (n - 2)) (he : ∀ r ∈ rs, r.length ≤ 4000) : Good (lgO D f n rs) :=
  ⟨h0, h1, h2, h3, rfl, rfl, hu, he, by show (0 : Int) ≤ rs.length; omega, Int.le_refl _, by show (nwM D f).2.toNat = (enc (rs.take ((rs.length : Int)).toNat)).length; rw [List.take_of_length_le (by omega)]; exact hF.z⟩
end Go.Wl
