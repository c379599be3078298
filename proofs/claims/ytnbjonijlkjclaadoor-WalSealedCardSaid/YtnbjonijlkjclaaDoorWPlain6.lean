/- Logs on disks that may fail: acts, and power failures. -/
import Derived.Test.YtnbjonijlkjclaaDoorWPlain5
namespace Go.Wl
open Go.Wk Go.Dsk

/-- A log and its disk, after any acts; rst: a Reset was interrupted. -/
structure Pst (f n : Int) (g : Lg) (D : Dk) (T M : Nat) (rst : Bool) : Prop where
  good : Good g
  ef : g.f = f
  en : g.n = n
  ok : D.ok M
  m1 : 1 ≤ M
  len : f + n ≤ D.S.length
  t0 : 0 < g.turn.toNat
  tT : g.turn.toNat ≤ T
  st : (rst = false ∧ Reg D f g.turn.toNat (dur g)) ∨ (D.off = true ∧ rst = false ∧ Pen D f g.turn.toNat (dur g) g.recs) ∨ (D.off = true ∧ rst = true ∧ Pen D f g.turn.toNat (dur g) [])
variable {f n : Int} {g : Lg} {D : Dk} {T M : Nat} {rst : Bool}
theorem Pst.on (h : Pst f n g D T M rst) (hon : D.off = false) : rst = false ∧ Reg D f g.turn.toNat (dur g) := by
  rcases h.st with h | ⟨h, _⟩ | ⟨h, _⟩
  · exact h
  · rw [hon] at h; cases h
  · rw [hon] at h; cases h
theorem Pst.mono (h : Pst f n g D T M rst) {T' M' : Nat} (hT : T ≤ T') (hM : M ≤ M') : Pst f n g D T' M' rst :=
  ⟨h.good, h.ef, h.en, h.ok.mono hM, by have := h.m1; omega, h.len, h.t0, by have := h.tT; omega, h.st⟩
theorem Pst.nat (h : Pst f n g D T M rst) : 0 ≤ f ∧ f ≤ 10000 ∧ 4 ≤ n ∧ n ≤ 10000 := by
  have h1 := h.good.f0; have h2 := h.good.f1; have h3 := h.good.n0; have h4 := h.good.n1
  rw [h.ef] at h1 h2; rw [h.en] at h3 h4; exact ⟨h1, h2, h3, h4⟩
theorem Pst.chk (h : Pst f n g D T M rst) (hon : D.off = false) : checkV D f n = 0 := by
  obtain ⟨a, b, c, d⟩ := h.nat
  have e := h.len
  exact checkV_zero.2 ⟨c, a, by omega, by omega, hon⟩
/-- Formatted, while the power stays on. -/
theorem Pst.format {E : Dk} {f n : Int} {M : Nat} (hE : E.ok M) (hm : 1 ≤ M) (hc : E.calm) (hv : checkV E f n = 0) (h1 : f ≤ 10000) (h3 : n ≤ 10000) : Pst f n (lg0 f n 1 0) (fmtR E f n).1 1 (M + n.toNat + 1) false := by
  obtain ⟨h4, g0, g1, g2, _⟩ := checkV_zero.1 hv
  refine ⟨lg0_good g0 h1 h4 h3, rfl, rfl, ?_, by omega, by rw [(fmt_calm hc hv).2.len]; omega, by show 0 < (1 : UInt64).toNat; decide, by show (1 : UInt64).toNat ≤ 1; decide, .inl ⟨rfl, fmt_reg hc hv⟩⟩
  have hz : ∀ (k i m : Nat) {D : Dk}, D.ok m → (zloop f D i k).1.ok (m + k) := by
    intro k
    induction k with
    | zero => exact fun _ _ _ h => h
    | succ k ih =>
      intro i m D h
      rw [zloop]; split
      · exact h.mono (by omega)
      · rw [show m + (k + 1) = (m + 1) + k from by omega]; exact ih (i + 1) (m + 1) (h.write _ _)
  have hz' := hz n.toNat 0 M hE
  unfold fmtR
  split
  · exact hE.mono (by omega)
  split
  · exact hz'.mono (by omega)
  split
  · exact (hz'.flush (by omega)).mono (by omega)
  · exact putD_ok (hz'.flush (by omega)) _ _ _
theorem Pst.sync (h : Pst f n g D T M rst) (hon : D.off = false) (hT : T + 2 < 2 ^ 64) : Pst f n (syncR g D).1 (syncR g D).2.1 (T + 1) (M + n.toNat + 2) false ∧ Frm D (syncR g D).2.1 f n ∧ (syncR g D).2.1.S.length = D.S.length ∧ (D.calm → (syncR g D).2.1.calm ∧ (syncR g D).2.2 = 0)
    ∧ (syncR g D).1.recs = g.recs ∧ (((syncR g D).2.2 = 0 ∧ (syncR g D).1.synced = g.recs.length) ∨ ((syncR g D).2.2 = 10 ∧ (syncR g D).2.1.off = true ∧ (syncR g D).1 = g)) := by
  have htT := h.tT; have ht0 := h.t0; have hlen := h.len
  obtain ⟨_, hR⟩ := h.on hon
  have hs := sync_thm h.good h.ok hon (by rw [h.ef, h.en]; exact hlen) (by rw [h.ef]; exact hR) (by omega)
  have hdk := syncR_dok h.good h.ok h.m1 (by rw [h.ef, h.en]; exact hlen)
  rw [h.en] at hdk
  have hF := hs.frm
  have hl := hs.len
  rw [h.ef, h.en] at hF
  rcases hs.res with ⟨r1, r2, r3, r4, r5, r6, r7, r8, r9⟩ | ⟨r1, r2, r3, r4⟩
  · refine ⟨⟨r2, r3.trans h.ef, r4.trans h.en, hdk, by omega, by rw [hl]; exact hlen, by omega, by omega, .inl ⟨rfl, ?_⟩⟩, hF, hl, hs.calm, r5, .inl ⟨r1, r6⟩⟩
    rw [h.ef] at r9
    rwa [dur_all (by rw [r5]; exact r6), r5]
  · refine ⟨?_, hF, hl, hs.calm, by rw [r2], .inr ⟨r1, r3, r2⟩⟩
    rw [r2]
    rw [h.ef] at r4
    refine ⟨h.good, h.ef, h.en, hdk, by omega, by rw [hl]; exact hlen, ht0, by omega, ?_⟩
    rcases r4 with r4 | r4
    · exact .inl ⟨rfl, r4⟩
    · exact .inr (.inl ⟨r3, rfl, r4⟩)
theorem Pst.reset (h : Pst f n g D T M rst) (hon : D.off = false) (hT : T + 2 < 2 ^ 64) : ∃ r : Bool, Pst f n (resetL g D) (putD D g.f (g.turn + 1) 0) (T + 1) (M + 1) r ∧ Frm D (putD D g.f (g.turn + 1) 0) f n ∧ (putD D g.f (g.turn + 1) 0).S.length = D.S.length ∧ (D.calm → (putD D g.f (g.turn + 1) 0).calm ∧ putE D g.f (g.turn + 1) 0 = 0)
    ∧ ((putE D g.f (g.turn + 1) 0 = 0 ∧ r = false ∧ (resetL g D).recs = [] ∧ (resetL g D).synced = 0) ∨ (putE D g.f (g.turn + 1) 0 = 10 ∧ r = true ∧ (putD D g.f (g.turn + 1) 0).off = true ∧ resetL g D = g)) := by
  have htT := h.tT; have ht0 := h.t0; have hlen := h.len; have hm1 := h.m1
  obtain ⟨_, hR⟩ := h.on hon
  have hs := reset_thm h.good h.ok hon (by rw [h.ef, h.en]; exact hlen) (by rw [h.ef]; exact hR) (by omega)
  have hF := hs.frm
  have hl := hs.len
  have hdk : (putD D g.f (g.turn + 1) 0).ok (M + 1) := putD_ok h.ok _ _ _
  rw [h.ef, h.en] at hF
  have hc := hs.calm
  rcases hs.res with ⟨r1, r2, r3, r4, r5, r6, r7, r8⟩ | ⟨r1, r2, r3, r4⟩
  · refine ⟨false, ⟨r2, r3.trans h.ef, r4.trans h.en, hdk, by omega, by rw [hl]; exact hlen, by omega, by omega, .inl ⟨rfl, ?_⟩⟩, ?_, hl, hc, .inl ⟨r1, rfl, r5, r6⟩⟩
    · rw [h.ef] at r8 ⊢
      have e : dur (resetL g D) = [] := by unfold dur; rw [r5, List.take_nil]
      rwa [e, r7]
    · rw [h.ef]; exact hF
  · refine ⟨true, ?_, ?_, hl, hc, .inr ⟨r1, rfl, r3, r2⟩⟩
    · rw [h.ef] at r3 r4 hdk hl ⊢
      rw [r2]
      exact ⟨h.good, h.ef, h.en, hdk, by omega, by rw [hl]; exact hlen, ht0, by omega, .inr (.inr ⟨r3, rfl, r4⟩)⟩
    · rw [h.ef]; exact hF
theorem Pst.app {rec : List UInt8} (h : Pst f n g D T M rst) (hon : D.off = false) (he : appE g D rec = 0) : Pst f n (appL g D rec) D T M false ∧ (appL g D rec).recs = g.recs ++ [rec] ∧ (appL g D rec).synced = g.synced := by
  obtain ⟨a1, a2, a3, a4, a5, a6, a7⟩ := app_thm h.good he hon
  obtain ⟨_, hR⟩ := h.on hon
  exact ⟨⟨a1, a2.trans h.ef, a3.trans h.en, h.ok, h.m1, h.len, by rw [a6]; exact h.t0, by rw [a6]; exact h.tT, .inl ⟨rfl, by rw [a6, a7]; exact hR⟩⟩, a4, a5⟩
theorem HeldI.same {E : Dk} {p : List UInt8} (h : HeldI D f p) (e : ∀ j : Int, E.at j = D.at j) : HeldI E f p := h.of fun q _ v hv => by rwa [e] at hv
theorem Reg.same {E : Dk} {t : Nat} {pre : List (List UInt8)} (h : Reg D f t pre) (e : ∀ j : Int, E.at j = D.at j) : Reg E f t pre := by
  obtain ⟨o, ho, hw⟩ := h.o
  exact ⟨by rw [e]; exact h.m, ⟨o, by rw [e]; exact ho, hw⟩, h.h.same e⟩
theorem Pst.blow (h : Pst f n g D T M rst) {k : Int} (hk : k ≤ 9223372036854775807) : Pst f n g (D.blow k) T M rst := by
  refine ⟨h.good, h.ef, h.en, h.ok.blow hk, h.m1, by rw [blow_S]; exact h.len, h.t0, h.tT, ?_⟩
  rcases h.st with ⟨h1, h2⟩ | ⟨h1, h2, h3⟩ | ⟨h1, h2, h3⟩
  · exact .inl ⟨h1, h2.same fun j => at_blow D k j⟩
  · have e : D.blow k = D := if_pos h1
    rw [e]; exact .inr (.inl ⟨h1, h2, h3⟩)
  · have e : D.blow k = D := if_pos h1
    rw [e]; exact .inr (.inr ⟨h1, h2, h3⟩)
/-- What a log may be after a power failure. -/
def betw (got : List (List UInt8)) (least : Int) (most : List (List UInt8)) : Prop := least ≤ got.length ∧ got.length ≤ most.length ∧ got = most.take got.length
instance (got : List (List UInt8)) (least : Int) (most : List (List UInt8)) : Decidable (betw got least most) := by unfold betw; infer_instance
structure Back (D : Dk) (f n : Int) (g : Lg) (rst : Bool) (rs : List (List UInt8)) : Prop where
  fits : Fits D f n rs
  used : (usedV rs : Int) ≤ 64 * (n - 2)
  each : ∀ r ∈ rs, r.length ≤ 4000
  old : betw rs g.synced g.recs ∨ (rst = true ∧ rs = [])
theorem used_pre {a b : List (List UInt8)} (h : a <+: b) : usedV a ≤ usedV b := by obtain ⟨c, rfl⟩ := h; simp [usedV]
theorem betw_dur (hg : Good g) : betw (dur g) g.synced g.recs := by
  have h0 := hg.s0; have h1 := hg.s1
  have hl : (dur g).length = g.synced.toNat := by unfold dur; rw [List.length_take]; omega
  exact ⟨by omega, by omega, by rw [hl]; rfl⟩
theorem betw_all (hg : Good g) : betw g.recs g.synced g.recs := ⟨hg.s1, Nat.le_refl _, by rw [List.take_length]⟩
theorem Pst.crash (h : Pst f n g D T M rst) (hT : T + 3 < 2 ^ 64) (ts : List Torn) : ∃ rs T', Back (D.restart ts) f n g rst rs ∧ Can (D.restart ts) f n T' rs ∧ 0 < T' ∧ T' ≤ T + 1 := by
  obtain ⟨f0, f1, n0, n1⟩ := h.nat
  have htT := h.tT; have ht0 := h.t0; have hlen := h.len
  have hfd := h.good.fitd; have hfa := h.good.fit2; have hfu := h.good.fit
  rw [h.en] at hfd hfa hfu
  have hud := used_pre (a := dur g) (b := g.recs) (List.take_prefix _ _)
  have hed : ∀ r ∈ dur g, r.length ≤ 4000 := fun r hr => h.good.each r (List.mem_of_mem_take hr)
  have hRo := h.ok.restart h.m1 ts
  have hl2 := restart_len D ts
  rcases h.st with ⟨h1, h2⟩ | ⟨h1, h2, h3⟩ | ⟨h1, h2, h3⟩
  · have hc := (h2.restart h.ok f0 (by omega) ts).can hRo f0 (by omega) hfd (by omega) ht0 (by omega)
    exact ⟨_, _, ⟨hc.fits, by omega, hed, .inl (betw_dur h.good)⟩, hc, ht0, by omega⟩
  · rcases h3.restart h.ok h.m1 f0 hlen n0 hfd hfa (by omega) ht0 (by omega) ts with hc | hc
    · exact ⟨_, _, ⟨hc.fits, by omega, hed, .inl (betw_dur h.good)⟩, hc, ht0, by omega⟩
    · exact ⟨_, _, ⟨hc.fits, by omega, h.good.each, .inl (betw_all h.good)⟩, hc, by omega, by omega⟩
  · rcases h3.restart h.ok h.m1 f0 hlen n0 hfd (by rw [enc_zero]; omega) (by omega) ht0 (by omega) ts with hc | hc
    · exact ⟨_, _, ⟨hc.fits, by omega, hed, .inl (betw_dur h.good)⟩, hc, ht0, by omega⟩
    · exact ⟨_, _, ⟨hc.fits, by show ((0 : Nat) : Int) ≤ _; omega, fun r hr => (by cases hr), .inr ⟨h2, rfl⟩⟩, hc, by omega, by omega⟩
/-- A log that is opened anew while all is durable. -/
theorem Pst.reopen (h : Pst f n g D T M rst) (hon : D.off = false) (hs : g.synced = g.recs.length) (hT : T + 2 < 2 ^ 64) : Fits D f n g.recs ∧ Pst f n (lgO D f n g.recs) D T M false := by
  obtain ⟨f0, f1, n0, n1⟩ := h.nat
  have htT := h.tT; have ht0 := h.t0; have hlen := h.len
  have hfa := h.good.fit2; have hfu := h.good.fit
  rw [h.en] at hfa hfu
  obtain ⟨_, hR⟩ := h.on hon
  rw [dur_all hs] at hR
  have hc := hR.can h.ok f0 hlen hfa (by omega) ht0 (by omega)
  have e : dur (lgO D f n g.recs) = g.recs := dur_all rfl
  refine ⟨hc.fits, ⟨lgO_good f0 f1 n0 n1 hc.fits hfu h.good.each, rfl, rfl, h.ok, h.m1, hlen, by show 0 < (nwM D f).1.toNat; rw [hc.turn]; exact ht0, by show (nwM D f).1.toNat ≤ T; rw [hc.turn]; exact htT, .inl ⟨rfl, ?_⟩⟩⟩
  rw [e]
  show Reg D f (nwM D f).1.toNat g.recs
  rw [hc.turn]; exact hR
/-- Another region of the disk. -/
theorem Pst.beside {E : Dk} {f2 n2 : Int} {M' : Nat} (h : Pst f n g D T M rst) (hon : D.off = false) (hF : Frm D E f2 n2) (hl : E.S.length = D.S.length) (hE : E.ok M') (hm : 1 ≤ M') (hd : f + n ≤ f2 ∨ f2 + n2 ≤ f) : Pst f n g E T M' rst := by
  obtain ⟨f0, f1, n0, n1⟩ := h.nat
  have hfd := h.good.fitd
  rw [h.en] at hfd
  obtain ⟨h1, h2⟩ := h.on hon
  exact ⟨h.good, h.ef, h.en, hE, hm, by rw [hl]; exact h.len, h.t0, h.tT, .inl ⟨h1, h2.frame hF h.ok f0 n0 hd hfd⟩⟩
end Go.Wl
