/- Logs on disks, in plain Lean: numbers in bytes, sectors, marks, records. -/
import Derived.Test.YtnbjonijlkjclaaDoorDPlain4
namespace Go.Wl
open Go.Wk Go.Dsk

/- 1. NUMBERS -/
def leb : Nat → Nat → List UInt8
  | 0, _ => []
  | k + 1, n => UInt8.ofNat n :: leb k (n / 256)
def lev : List UInt8 → Nat
  | [] => 0
  | c :: l => c.toNat + 256 * lev l
theorem leb_len : ∀ k n, (leb k n).length = k
  | 0, _ => rfl
  | k + 1, n => by simp [leb, leb_len k]
theorem lev_leb : ∀ (k n : Nat), n < 256 ^ k → lev (leb k n) = n
  | 0, n, h => by simp at h; subst h; rfl
  | k + 1, n, h => by
    rw [leb, lev, lev_leb k (n / 256) (by rw [Nat.pow_succ] at h; omega)]
    rw [UInt8.toNat_ofNat']
    omega
theorem lev_lt : ∀ l : List UInt8, lev l < 256 ^ l.length
  | [] => by simp [lev]
  | c :: l => by
    have h := lev_lt l
    have hc := c.toNat_lt
    rw [lev, List.length_cons, Nat.pow_succ]; omega
theorem lev_snoc (l : List UInt8) (c : UInt8) : lev (l ++ [c]) = lev l + 256 ^ l.length * c.toNat := by
  induction l with
  | nil => simp [lev]
  | cons d l ih => rw [List.cons_append, lev, lev, ih, List.length_cons, Nat.pow_succ]; simp only [Nat.mul_add]; rw [Nat.mul_comm (256 ^ l.length) 256, Nat.mul_assoc]; omega
theorem lev_zero (k : Nat) : lev (List.replicate k 0) = 0 := by
  induction k with
  | zero => rfl
  | succ k ih => rw [List.replicate_succ, lev, ih]; rfl
theorem lev_inj : ∀ {a b : List UInt8}, a.length = b.length → lev a = lev b → a = b
  | [], [], _, _ => rfl
  | c :: a, d :: b, hl, h => by
    rw [lev, lev] at h
    have hc := c.toNat_lt; have hd := d.toNat_lt
    have e1 : c.toNat = d.toNat := by omega
    have e2 : lev a = lev b := by omega
    rw [UInt8.toNat_inj.1 e1, lev_inj (by simpa using hl) e2]
  | [], _ :: _, hl, _ => by simp at hl
  | _ :: _, [], hl, _ => by simp at hl

/- 2. SECTORS, MARKS -/
def sec (b : List UInt8) : Sec := (b ++ List.replicate 64 0).take 64
theorem sec_len (b : List UInt8) : (sec b).length = 64 := by rw [sec, List.length_take, List.length_append, List.length_replicate]; omega
def cp (t s : Nat) : List UInt8 := leb 8 t ++ leb 8 s
theorem cp_len (t s : Nat) : (cp t s).length = 16 := by simp [cp, leb_len]
def markB (t s : Nat) : List UInt8 := cp t s ++ cp t s
def markS (t s : Nat) : Sec := sec (markB t s)
def c1 (s : Sec) : List UInt8 := s.take 16
def c2 (s : Sec) : List UInt8 := (s.drop 16).take 16
def rd (b : List UInt8) : Nat × Nat := (lev (b.take 8), lev ((b.drop 8).take 8))
theorem rd_cp {t s : Nat} (ht : t < 2 ^ 64) (hs : s < 2 ^ 64) : rd (cp t s) = (t, s) := by
  have e1 : (cp t s).take 8 = leb 8 t := by rw [cp, List.take_append_of_le_length (by rw [leb_len]; omega), List.take_of_length_le (by rw [leb_len]; omega)]
  have e2 : ((cp t s).drop 8).take 8 = leb 8 s := by
    rw [cp, List.drop_append_of_le_length (by rw [leb_len]; omega), List.drop_of_length_le (by rw [leb_len]; omega), List.nil_append, List.take_of_length_le (by rw [leb_len]; omega)]
  rw [rd, e1, e2, lev_leb 8 t ht, lev_leb 8 s hs]
theorem rd_inj {a b : List UInt8} (ha : a.length = 16) (hb : b.length = 16) (h : rd a = rd b) : a = b := by
  unfold rd at h
  obtain ⟨h1, h2⟩ := Prod.mk.inj h
  have e1 := lev_inj (by simp [ha, hb]) h1
  have e2 := lev_inj (by simp [ha, hb]) h2
  rw [List.take_of_length_le (by simp; omega), List.take_of_length_le (l := b.drop 8) (by simp; omega)] at e2
  rw [← List.take_append_drop 8 a, ← List.take_append_drop 8 b, e1, e2]
theorem markS_eq (t s : Nat) : markS t s = cp t s ++ (cp t s ++ List.replicate 32 0) := by
  have e : markB t s ++ List.replicate 64 0 = (cp t s ++ (cp t s ++ List.replicate 32 0)) ++ List.replicate 32 (0 : UInt8) := by
    rw [show (64 : Nat) = 32 + 32 from rfl, ← List.replicate_append_replicate]; simp [markB]
  rw [markS, sec, e, List.take_append_of_le_length (by simp [cp_len]), List.take_of_length_le (by simp [cp_len])]
theorem c1_mark (t s : Nat) : c1 (markS t s) = cp t s := by
  rw [c1, markS_eq, List.take_append_of_le_length (by rw [cp_len]; omega), List.take_of_length_le (by rw [cp_len]; omega)]
theorem c2_mark (t s : Nat) : c2 (markS t s) = cp t s := by
  rw [c2, markS_eq, List.drop_append_of_le_length (by rw [cp_len]; omega), List.drop_of_length_le (by rw [cp_len]; omega), List.nil_append, List.take_append_of_le_length (by rw [cp_len]; omega), List.take_of_length_le (by rw [cp_len]; omega)]
/-- The mark of a sector; turn 0: none. -/
def mk (s : Sec) : Nat × Nat := if rd (c1 s) = rd (c2 s) then rd (c1 s) else (0, 0)
def better (x : Nat × Nat) (s : Sec) : Nat × Nat := if rd (c1 s) = rd (c2 s) ∧ x.1 < (rd (c1 s)).1 then rd (c1 s) else x
def zsec : Sec := List.replicate 64 0
theorem sec_nil : sec [] = zsec := by simp [sec, zsec]
theorem zsec_mark : c1 zsec = cp 0 0 ∧ c2 zsec = cp 0 0 := by decide
/-- A sector that holds no mark, or an old one. -/
def Weak (T : Nat) (o : Sec) : Prop := o.length = 64 ∧ c1 o = c2 o ∧ (rd (c1 o)).1 < T
theorem weak_zero {T : Nat} (h : 0 < T) : Weak T zsec := ⟨by simp [zsec], by rw [zsec_mark.1, zsec_mark.2], by rw [zsec_mark.1, rd_cp (by decide) (by decide)]; exact h⟩
theorem weak_mark {T t s : Nat} (h : t < T) (ht : t < 2 ^ 64) (hs : s < 2 ^ 64) : Weak T (markS t s) := ⟨sec_len _, by rw [c1_mark, c2_mark], by rw [c1_mark, rd_cp ht hs]; exact h⟩
theorem Weak.mono {T T' : Nat} {o : Sec} (h : Weak T o) (hT : T ≤ T') : Weak T' o := ⟨h.1, h.2.1, Nat.lt_of_lt_of_le h.2.2 hT⟩
theorem better_weak {T s : Nat} {o : Sec} (h : Weak T o) : better (T, s) o = (T, s) := if_neg fun e => by have := h.2.2; have := e.2; simp only at this; omega
theorem better_weak0 {T : Nat} {o : Sec} (h : Weak T o) : (better (0, 0) o).1 < T ∨ better (0, 0) o = (0, 0) := by
  unfold better; split
  · exact .inl h.2.2
  · exact .inr rfl
theorem better_mark {x : Nat × Nat} {t s : Nat} (ht : t < 2 ^ 64) (hs : s < 2 ^ 64) (h : x.1 < t) : better x (markS t s) = (t, s) := by
  unfold better; rw [c1_mark, c2_mark, rd_cp ht hs, if_pos ⟨rfl, h⟩]
/-- A torn mark over a weak sector: none, the old one, or the new one. -/
theorem torn_mark {T t s j : Nat} {o : Sec} (h : Weak T o) (_hT : t < 2 ^ 64) (_hs : s < 2 ^ 64) (_ht : T ≤ t) : Weak T ((markS t s).take j ++ o.drop j) ∨ rd (c1 ((markS t s).take j ++ o.drop j)) ≠ rd (c2 ((markS t s).take j ++ o.drop j)) ∨ (c1 ((markS t s).take j ++ o.drop j) = cp t s ∧ c2 ((markS t s).take j ++ o.drop j) = cp t s) := by
  obtain ⟨ho, hc, hT2⟩ := h
  have hm : (markS t s).length = 64 := sec_len _
  generalize hx : (markS t s).take j ++ o.drop j = x
  have hxl : x.length = 64 := by
    rw [← hx, List.length_append, List.length_take, List.length_drop, hm, ho]; omega
  by_cases hj : j ≤ 16
  · -- the second copy is the old one
    have e2 : c2 x = c2 o := by
      rw [← hx, c2, c2, List.drop_append, List.length_take, hm, List.drop_of_length_le (by rw [List.length_take]; omega), List.nil_append, List.drop_drop, show j + (16 - min j 64) = 16 from by omega]
    by_cases e : rd (c1 x) = rd (c2 x)
    · left
      have e3 : c1 x = c2 x := rd_inj (by rw [c1, List.length_take]; omega) (by rw [c2, List.length_take, List.length_drop]; omega) e
      exact ⟨hxl, e3, by rw [e, e2, ← hc]; exact hT2⟩
    · exact .inr (.inl e)
  · have e1 : c1 x = cp t s := by
      rw [← hx, c1, List.take_append_of_le_length (by rw [List.length_take]; omega), List.take_take, show min 16 j = 16 from by omega]
      exact c1_mark t s
    by_cases e : rd (c1 x) = rd (c2 x)
    · right; right
      exact ⟨e1, by rw [← rd_inj (by rw [c1, List.length_take]; omega) (by rw [c2, List.length_take, List.length_drop]; omega) e, e1]⟩
    · exact .inr (.inl e)
theorem better_bad {x : Nat × Nat} {s : Sec} (h : rd (c1 s) ≠ rd (c2 s)) : better x s = x := if_neg fun e => h e.1
theorem better_new {x : Nat × Nat} {t s : Nat} {o : Sec} (ht : t < 2 ^ 64) (hs : s < 2 ^ 64) (h1 : c1 o = cp t s) (h2 : c2 o = cp t s) (h : x.1 < t) : better x o = (t, s) := by
  unfold better; rw [h1, h2, rd_cp ht hs, if_pos ⟨rfl, h⟩]
theorem better_low {x : Nat × Nat} {t s : Nat} {o : Sec} (ht : t < 2 ^ 64) (hs : s < 2 ^ 64) (h1 : c1 o = cp t s) (h : t ≤ x.1) : better x o = x := by
  unfold better; rw [if_neg]; rw [h1, rd_cp ht hs]; rintro ⟨_, h'⟩; simp only at h'; omega

/- 3. RECORDS -/
def enc (rs : List (List UInt8)) : List UInt8 := rs.flatMap fun r => leb 4 r.length ++ r
def usedV (rs : List (List UInt8)) : Nat := (rs.map fun r => r.length + 12).sum
theorem enc_nil : enc [] = [] := rfl
theorem enc_snoc (rs : List (List UInt8)) (r : List UInt8) : enc (rs ++ [r]) = enc rs ++ (leb 4 r.length ++ r) := by simp [enc]
theorem enc_cons (rs : List (List UInt8)) (r : List UInt8) : enc (r :: rs) = leb 4 r.length ++ (r ++ enc rs) := by simp [enc]
theorem enc_append (a b : List (List UInt8)) : enc (a ++ b) = enc a ++ enc b := by simp [enc]
theorem used_snoc (rs : List (List UInt8)) (r : List UInt8) : usedV (rs ++ [r]) = usedV rs + (r.length + 12) := by simp [usedV]
theorem enc_len : ∀ rs : List (List UInt8), (enc rs).length + 8 * rs.length = usedV rs
  | [] => rfl
  | r :: rs => by
    have ih := enc_len rs
    rw [enc_cons, List.length_append, List.length_append, leb_len, List.length_cons, usedV, List.map_cons, List.sum_cons]
    rw [usedV] at ih; omega
theorem enc_pos {rs : List (List UInt8)} (h : (enc rs).length = 0) : rs = [] := by
  cases rs with
  | nil => rfl
  | cons r rs => rw [enc_cons, List.length_append, leb_len] at h; omega
theorem enc_take_pre (rs : List (List UInt8)) (k : Nat) : enc (rs.take k) <+: enc rs := ⟨enc (rs.drop k), by rw [← enc_append, List.take_append_drop]⟩

/- 4. REGIONS OF DISKS -/
/-- What a sector holds now. -/
def now (D : Dk) (k : Nat) : Sec := lst (D.at k)
/-- Every version of the sectors from base on agrees with these bytes. -/
def Held (D : Dk) (base : Nat) (p : List UInt8) : Prop := ∀ i j, j < 64 → 64 * i + j < p.length → ∀ v ∈ D.at ((base + i : Nat) : Int), v[j]? = p[64 * i + j]?
theorem Held.nil (D : Dk) (base : Nat) : Held D base [] := fun i j _ h => by simp at h
theorem Held.pre {D : Dk} {base : Nat} {p q : List UInt8} (h : Held D base q) (hp : p <+: q) : Held D base p := fun i j hj hl v hv => by
  obtain ⟨r, rfl⟩ := hp
  rw [h i j hj (by rw [List.length_append]; omega) v hv, List.getElem?_append_left hl]
/-- What is read of the sectors from base on. -/
def readN (D : Dk) (base : Nat) : Nat → List UInt8
  | 0 => []
  | m + 1 => readN D base m ++ now D (base + m)
end Go.Wl
