/- What the functions of package wal do. -/
import Derived.Test.YtnbjonijlkjclaaDoorWPlain
namespace Go.Wl
open Go.Wk Go.Dsk

structure Lg where
  f : Int
  n : Int
  turn : UInt64
  size : UInt64
  data : List UInt8
  recs : List (List UInt8)
  used : Int
  synced : Int
structure LgOk (g : Lg) : Prop where
  f0 : 0 ≤ g.f
  f1 : g.f ≤ 100000
  n0 : 4 ≤ g.n
  n1 : g.n ≤ 100000
  d : g.data.length ≤ 10000000
  r : g.recs.length ≤ 10000000
  u0 : 0 ≤ g.used
  u1 : g.used ≤ 100000000
  s0 : 0 ≤ g.synced
  s1 : g.synced ≤ 100000000
  z : g.size.toNat ≤ g.data.length
def putK (f : Int) (t : UInt64) : Int := f + ((t % 2).toNat : Int)
def putS (t s : UInt64) : Sec := markS t.toNat s.toNat
def putD (D : Dk) (f : Int) (t s : UInt64) : Dk := if D.writeE (putK f t) (putS t s) ≠ 0 then D else (D.write (putK f t) (putS t s)).flush
def putE (D : Dk) (f : Int) (t s : UInt64) : Int := if D.writeE (putK f t) (putS t s) ≠ 0 then 10 else if (D.write (putK f t) (putS t s)).flushE ≠ 0 then 10 else 0
def putL (g : Lg) (D : Dk) (t s : UInt64) : Lg := if putE D g.f t s = 0 then { g with turn := t, size := s } else g
theorem writeE_ne {D : Dk} {k : Int} {s : Sec} (h : D.writeE k s ≠ 0) : D.write k s = D := by
  unfold Dk.writeE at h; unfold Dk.write
  split at h
  · rw [if_neg (fun e => h e.2)]
  · rename_i h2; rw [if_neg (fun e => h2 e.1)]
theorem flushE_ne {D : Dk} (h : D.flushE ≠ 0) : D.flush = D := by
  unfold Dk.flushE at h; unfold Dk.flush
  split
  · rfl
  · rename_i h2; rw [if_neg h2] at h; exact absurd rfl h
theorem put_err1 {D : Dk} {f : Int} {t s : UInt64} (h : D.writeE (putK f t) (putS t s) ≠ 0) : putD D f t s = D ∧ putE D f t s = 10 := ⟨if_pos h, if_pos h⟩
theorem put_err2 {D : Dk} {f : Int} {t s : UInt64} (h : ¬ D.writeE (putK f t) (putS t s) ≠ 0) (h2 : (D.write (putK f t) (putS t s)).flushE ≠ 0) : putD D f t s = (D.write (putK f t) (putS t s)).flush ∧ putE D f t s = 10 := ⟨if_neg h, by unfold putE; rw [if_neg h, if_pos h2]⟩
theorem put_okk {D : Dk} {f : Int} {t s : UInt64} (h : ¬ D.writeE (putK f t) (putS t s) ≠ 0) (h2 : ¬ (D.write (putK f t) (putS t s)).flushE ≠ 0) : putD D f t s = (D.write (putK f t) (putS t s)).flush ∧ putE D f t s = 0 := ⟨if_neg h, by unfold putE; rw [if_neg h, if_neg h2]⟩
theorem putL_err {g : Lg} {D : Dk} {t s : UInt64} (h : putE D g.f t s = 10) : putL g D t s = g := if_neg (by rw [h]; decide)
theorem putL_ok {g : Lg} {D : Dk} {t s : UInt64} (h : putE D g.f t s = 0) : putL g D t s = { g with turn := t, size := s } := if_pos h
theorem putE_cases (D : Dk) (f : Int) (t s : UInt64) : putE D f t s = 0 ∨ putE D f t s = 10 := by
  unfold putE; split
  · exact .inr rfl
  · split
    · exact .inr rfl
    · exact .inl rfl
def roomV (g : Lg) : Int := max (-1) (min 4000 (64 * (g.n - 2) - g.used - 12))
def cps (t s : UInt64) : Nat → List UInt8
  | 0 => []
  | i + 1 => cps t s i ++ leb 8 t.toNat ++ leb 8 s.toNat
theorem cps_len (t s : UInt64) : ∀ i, (cps t s i).length = 16 * i
  | 0 => rfl
  | i + 1 => by rw [cps, List.length_append, List.length_append, cps_len t s i, leb_len, leb_len]; omega
theorem cps_two (t s : UInt64) : sec (cps t s 2) = putS t s := by simp [cps, putS, markS, markB, cp]
theorem putD_ok {D : Dk} {m : Nat} (h : D.ok m) (f : Int) (t s : UInt64) : (putD D f t s).ok (m + 1) := by
  unfold putD; split
  · exact h.mono (by omega)
  · exact (h.write _ _).flush (by omega)
def resetL (g : Lg) (D : Dk) : Lg := if putE D g.f (g.turn + 1) 0 = 0 then { g with turn := g.turn + 1, size := 0, data := [], recs := [], used := 0, synced := 0 } else g
theorem resetL_ok {g : Lg} {D : Dk} (h : putE D g.f (g.turn + 1) 0 = 0) : resetL g D = { g with turn := g.turn + 1, size := 0, data := [], recs := [], used := 0, synced := 0 } := if_pos h
theorem resetL_err {g : Lg} {D : Dk} (h : putE D g.f (g.turn + 1) 0 ≠ 0) : resetL g D = g := if_neg h
theorem len64w (n : Nat) : UInt64.ofNat ((n : Int) % 18446744073709551616).toNat = UInt64.ofNat n := by
  apply UInt64.toNat_inj.1; rw [UInt64.toNat_ofNat', UInt64.toNat_ofNat']; omega
def chunkAt (data : List UInt8) (q : Nat) : List UInt8 := (data.drop (64 * q)).take 64
theorem chunkAt_len (data : List UInt8) (q : Nat) : (chunkAt data q).length ≤ 64 := by rw [chunkAt, List.length_take]; omega
theorem chunkAt_eq {data : List UInt8} {q h : Nat} (hq : 64 * q ≤ data.length) (hh : h = min (64 * q + 64) data.length) : (data.drop (64 * q)).take (h - 64 * q) = chunkAt data q := by
  rw [chunkAt, List.take_eq_take_iff, List.length_drop]; omega
/-- The data is written from sector q on: the disk, and whether all went well. -/
def wloop (f : Int) (data : List UInt8) : Dk → Nat → Nat → Dk × Bool
  | D, _, 0 => (D, true)
  | D, q, k + 1 => if D.writeE (f + 2 + q) (sec (chunkAt data q)) ≠ 0 then (D, false) else wloop f data (D.write (f + 2 + q) (sec (chunkAt data q))) (q + 1) k
def wcnt (g : Lg) : Nat := (g.data.length + 63) / 64 - g.size.toNat / 64
def wl (g : Lg) (D : Dk) : Dk × Bool := wloop g.f g.data D (g.size.toNat / 64) (wcnt g)
def syT (g : Lg) : UInt64 := g.turn + 1
def syS (g : Lg) : UInt64 := UInt64.ofNat g.data.length
/-- Sync: the log, the disk, the error. -/
def syncR (g : Lg) (D : Dk) : Lg × Dk × Int :=
  if D.off = true then (g, D, 10) else if g.synced = g.recs.length then (g, D, 0)
  else if (wl g D).2 = false then (g, (wl g D).1, 10)
  else if (wl g D).1.flushE ≠ 0 then (g, (wl g D).1.flush, 10)
  else if putE (wl g D).1.flush g.f (syT g) (syS g) ≠ 0 then (g, putD (wl g D).1.flush g.f (syT g) (syS g), 10)
  else ({ g with turn := syT g, size := syS g, synced := g.recs.length }, putD (wl g D).1.flush g.f (syT g) (syS g), 0)
theorem syncR_off {g : Lg} {D : Dk} (h : D.off = true) : syncR g D = (g, D, 10) := if_pos h
theorem syncR_none {g : Lg} {D : Dk} (h : D.off = false) (h2 : g.synced = g.recs.length) : syncR g D = (g, D, 0) := by unfold syncR; rw [if_neg (by rw [h]; decide), if_pos h2]
theorem syncR_w {g : Lg} {D : Dk} (h : D.off = false) (h2 : ¬ g.synced = g.recs.length) {E : Dk} (h3 : wl g D = (E, false)) : syncR g D = (g, E, 10) := by unfold syncR; rw [if_neg (by rw [h]; decide), if_neg h2, if_pos (by rw [h3]), h3]
theorem syncR_f {g : Lg} {D : Dk} (h : D.off = false) (h2 : ¬ g.synced = g.recs.length) {E : Dk} (h3 : wl g D = (E, true)) (h4 : E.flushE ≠ 0) : syncR g D = (g, E.flush, 10) := by unfold syncR; rw [if_neg (by rw [h]; decide), if_neg h2, h3, if_neg (by simp), if_pos h4]
theorem syncR_p {g : Lg} {D : Dk} (h : D.off = false) (h2 : ¬ g.synced = g.recs.length) {E : Dk} (h3 : wl g D = (E, true)) (h4 : ¬ E.flushE ≠ 0) (h5 : putE E.flush g.f (syT g) (syS g) ≠ 0) : syncR g D = (g, putD E.flush g.f (syT g) (syS g), 10) := by unfold syncR; rw [if_neg (by rw [h]; decide), if_neg h2, h3, if_neg (by simp), if_neg h4, if_pos h5]
theorem syncR_ok {g : Lg} {D : Dk} (h : D.off = false) (h2 : ¬ g.synced = g.recs.length) {E : Dk} (h3 : wl g D = (E, true)) (h4 : ¬ E.flushE ≠ 0) (h5 : putE E.flush g.f (syT g) (syS g) = 0) :
    syncR g D = ({ g with turn := syT g, size := syS g, synced := g.recs.length }, putD E.flush g.f (syT g) (syS g), 0) := by unfold syncR; rw [if_neg (by rw [h]; decide), if_neg h2, h3, if_neg (by simp), if_neg h4, if_neg (fun e => e h5)]
def appE (g : Lg) (D : Dk) (rec : List UInt8) : Int := if 4000 < (rec.length : Int) then 2 else if roomV g < rec.length then 9 else if D.off = true then 10 else 0
def appL (g : Lg) (D : Dk) (rec : List UInt8) : Lg := if appE g D rec = 0 then { g with data := g.data ++ leb 4 rec.length ++ rec, recs := g.recs ++ [rec], used := g.used + (rec.length + 12) } else g
theorem appL_ok {g : Lg} {D : Dk} {rec : List UInt8} (h : appE g D rec = 0) : appL g D rec = { g with data := g.data ++ leb 4 rec.length ++ rec, recs := g.recs ++ [rec], used := g.used + (rec.length + 12) } := if_pos h
theorem appL_err {g : Lg} {D : Dk} {rec : List UInt8} {e : Int} (h : appE g D rec = e) (he : e ≠ 0) : appL g D rec = g := if_neg (by rw [h]; exact he)
abbrev Mk := UInt64 × UInt64
def rdU (b : List UInt8) : Mk := (UInt64.ofNat (lev (b.take 8)), UInt64.ofNat (lev ((b.drop 8).take 8)))
def betU (x : Mk) (s : Sec) : Mk := if rdU (c1 s) = rdU (c2 s) ∧ x.1 < (rdU (c1 s)).1 then rdU (c1 s) else x
def nowI (D : Dk) (k : Int) : Sec := lst (D.at k)
def nwI (D : Dk) (f : Int) : Nat → Mk
  | 0 => (0, 0)
  | i + 1 => betU (nwI D f i) (nowI D (f + i))
def nwE (D : Dk) (f : Int) : Int := if (nwI D f 2).1 = 0 then 7 else 0
def nwM (D : Dk) (f : Int) : Mk := if (nwI D f 2).1 = 0 then (0, 0) else nwI D f 2
theorem rdU_parts {s : Sec} (_h : s.length = 64) : rdU (c1 s) = (UInt64.ofNat (lev ((s.drop 0).take 8)), UInt64.ofNat (lev ((s.drop 8).take (16 - 8)))) ∧ rdU (c2 s) = (UInt64.ofNat (lev ((s.drop 16).take (24 - 16))), UInt64.ofNat (lev ((s.drop 24).take (32 - 24)))) := by
  unfold rdU c1 c2
  refine ⟨?_, ?_⟩
  · rw [List.drop_zero, List.take_take, List.drop_take, List.take_take]; rfl
  · rw [List.take_take, List.drop_take, List.take_take, List.drop_drop]; rfl
theorem read_on {D : Dk} {k : Int} (h0 : 0 ≤ k) (h1 : k < D.S.length) (hon : D.off = false) : D.read k = (nowI D k, 0) := if_pos (Dk.errOf_zero.2 ⟨h0, h1, hon⟩)
theorem nowI_len {D : Dk} {m : Nat} (h : D.ok m) {k : Int} (h0 : 0 ≤ k) (h1 : k < D.S.length) : (nowI D k).length = 64 := by
  obtain ⟨a, _, c⟩ := h.all _ (mem_of (Dk.at_mem h0 h1))
  exact c _ (lst_mem a)
/-- The error of a region. -/
def checkV (D : Dk) (f n : Int) : Int := if n < 4 ∨ f < 0 ∨ (D.S.length : Int) < n ∨ (D.S.length : Int) - n < f then 5 else if D.off then 10 else 0
theorem checkV_zero {D : Dk} {f n : Int} : checkV D f n = 0 ↔ 4 ≤ n ∧ 0 ≤ f ∧ n ≤ D.S.length ∧ f ≤ (D.S.length : Int) - n ∧ D.off = false := by
  unfold checkV
  split
  · constructor
    · intro h; cases h
    · rintro ⟨_, _, _, _, _⟩; omega
  · split
    · rename_i h; constructor
      · intro h; cases h
      · rintro ⟨_, _, _, _, h2⟩; rw [h2] at h; cases h
    · rename_i h1 h2
      exact ⟨fun _ => ⟨by omega, by omega, by omega, by omega, by simpa using h2⟩, fun _ => rfl⟩
def lg0 (f n : Int) (t s : UInt64) : Lg := ⟨f, n, t, s, [], [], 0, 0⟩
/-- Sectors of zeros are written from i on. -/
def zloop (f : Int) : Dk → Nat → Nat → Dk × Bool
  | D, _, 0 => (D, true)
  | D, i, k + 1 => if D.writeE (f + i) zsec ≠ 0 then (D, false) else zloop f (D.write (f + i) zsec) (i + 1) k
def fmtR (D : Dk) (f n : Int) : Dk × Int :=
  if checkV D f n ≠ 0 then (D, checkV D f n)
  else if (zloop f D 0 n.toNat).2 = false then ((zloop f D 0 n.toNat).1, 10)
  else if (zloop f D 0 n.toNat).1.flushE ≠ 0 then ((zloop f D 0 n.toNat).1.flush, 10)
  else (putD (zloop f D 0 n.toNat).1.flush f 1 0, putE (zloop f D 0 n.toNat).1.flush f 1 0)
theorem fmtR_c {D : Dk} {f n : Int} (h : checkV D f n ≠ 0) : fmtR D f n = (D, checkV D f n) := if_pos h
theorem fmtR_z {D E : Dk} {f : Int} {n : Nat} (h : checkV D f n = 0) (h2 : zloop f D 0 n = (E, false)) : fmtR D f n = (E, 10) := by unfold fmtR; rw [if_neg (fun e => e h), Int.toNat_natCast, h2, if_pos rfl]
theorem fmtR_f {D E : Dk} {f : Int} {n : Nat} (h : checkV D f n = 0) (h2 : zloop f D 0 n = (E, true)) (h3 : E.flushE ≠ 0) : fmtR D f n = (E.flush, 10) := by unfold fmtR; rw [if_neg (fun e => e h), Int.toNat_natCast, h2, if_neg (by simp), if_pos h3]
theorem fmtR_p {D E : Dk} {f : Int} {n : Nat} (h : checkV D f n = 0) (h2 : zloop f D 0 n = (E, true)) (h3 : ¬ E.flushE ≠ 0) : fmtR D f n = (putD E.flush f 1 0, putE E.flush f 1 0) := by unfold fmtR; rw [if_neg (fun e => e h), Int.toNat_natCast, h2, if_neg (by simp), if_neg h3]
theorem lg0_ok {f : Int} {n : Nat} (h0 : 0 ≤ f) (h1 : f ≤ 100000) (h2 : 4 ≤ n) (h3 : n ≤ 100000) (t : UInt64) : LgOk (lg0 f n t 0) :=
  ⟨h0, h1, by show (4 : Int) ≤ n; omega, by show (n : Int) ≤ 100000; omega, by show 0 ≤ 10000000; decide, by show 0 ≤ 10000000; decide, by show (0 : Int) ≤ 0; decide, by show (0 : Int) ≤ 100000000; decide, by show (0 : Int) ≤ 0; decide, by show (0 : Int) ≤ 100000000; decide, by show (0 : UInt64).toNat ≤ 0; decide⟩
/-- The region holds just these records. -/
structure Fits (D : Dk) (f n : Int) (rs : List (List UInt8)) : Prop where
  e : nwE D f = 0
  z : (nwM D f).2.toNat = (enc rs).length
  l : ((enc rs).length : Int) ≤ 64 * (n - 2)
  d : ∀ q j : Nat, j < 64 → 64 * q + j < (enc rs).length → (nowI D (f + 2 + q))[j]? = (enc rs)[64 * q + j]?
def lgO (D : Dk) (f n : Int) (rs : List (List UInt8)) : Lg := ⟨f, n, (nwM D f).1, (nwM D f).2, enc rs, rs, usedV rs, rs.length⟩
theorem open_step {X e : List UInt8} {q h : Nat} (_hX : X.length = 64) (hh : h = min 64 (e.length - 64 * q)) (hq : 64 * q < e.length) (hd : ∀ j, j < 64 → 64 * q + j < e.length → X[j]? = e[64 * q + j]?) : e.take (64 * q) ++ X.take h = e.take (64 * (q + 1)) := by
  have hl : (e.take (64 * q)).length = 64 * q := by rw [List.length_take]; omega
  apply List.ext_getElem?
  intro i
  by_cases h1 : i < 64 * q
  · rw [List.getElem?_append_left (by omega), List.getElem?_take_of_lt h1, List.getElem?_take_of_lt (by omega)]
  · rw [List.getElem?_append_right (by omega), hl, List.getElem?_take, List.getElem?_take]
    by_cases h2 : i < 64 * (q + 1)
    · by_cases h3 : i < e.length
      · rw [if_pos (by omega), if_pos h2, hd (i - 64 * q) (by omega) (by omega), show 64 * q + (i - 64 * q) = i from by omega]
      · rw [if_neg (by omega), if_pos h2, List.getElem?_eq_none (by omega)]
    · rw [if_neg (by omega), if_neg h2]
theorem enc_ge : ∀ rs : List (List UInt8), 4 * rs.length ≤ (enc rs).length
  | [] => by simp
  | r :: rs => by
    have ih := enc_ge rs
    rw [enc_cons, List.length_append, List.length_append, leb_len, List.length_cons]; omega
theorem enc_at {rs : List (List UInt8)} {k : Nat} {r : List UInt8} (h : rs[k]? = some r) : enc rs = enc (rs.take k) ++ (leb 4 r.length ++ (r ++ enc (rs.drop (k + 1)))) := by
  obtain ⟨hk, e⟩ := List.getElem?_eq_some_iff.1 h
  conv => lhs; rw [← List.take_append_drop k rs, enc_append, List.drop_eq_getElem_cons hk, e, enc_cons]
theorem enc_step {rs : List (List UInt8)} {k : Nat} {r : List UInt8} (h : rs[k]? = some r) : (enc (rs.take (k + 1))).length = (enc (rs.take k)).length + 4 + r.length ∧ rs.take k ++ [r] = rs.take (k + 1) ∧ usedV (rs.take (k + 1)) = usedV (rs.take k) + (r.length + 12) := by
  have e : rs.take (k + 1) = rs.take k ++ [r] := by rw [List.take_add_one, h]; rfl
  rw [e]
  refine ⟨?_, rfl, used_snoc _ _⟩
  rw [enc_snoc, List.length_append, List.length_append, leb_len]; omega
theorem enc_head {rs : List (List UInt8)} {k : Nat} {r : List UInt8} (h : rs[k]? = some r) : ((enc rs).drop (enc (rs.take k)).length).take 4 = leb 4 r.length ∧ ((enc rs).drop ((enc (rs.take k)).length + 4)).take r.length = r ∧ (enc (rs.take k)).length + 4 + r.length ≤ (enc rs).length := by
  have e := enc_at h
  refine ⟨?_, ?_, ?_⟩
  · rw [e, List.drop_left, List.take_append_of_le_length (by rw [leb_len]; omega), List.take_of_length_le (by rw [leb_len]; omega)]
  · rw [e, ← List.drop_drop, List.drop_left, List.drop_append_of_le_length (by rw [leb_len]; omega), List.drop_of_length_le (by rw [leb_len]; omega), List.nil_append, List.take_left]
  · rw [e]; simp only [List.length_append, leb_len]; omega
end Go.Wl
