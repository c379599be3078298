/- Disks, in plain Lean: for each sector its durable bytes, followed by its unflushed writes; whether the power is off; the fuse (0: there is none). -/
import Derived.Test.YtnbjonijlkjclaaDoorKernB
namespace Go.Dsk
open Go.Wk

abbrev Sec := List UInt8
structure Torn where
  s : Int
  w : Int
  b : Int
def RTorn : Rep Torn := Rep.dt 3 (fun t => [vI t.s, vI t.w, vI t.b]) (fun t => inInt t.s ∧ inInt t.w ∧ inInt t.b) (fun _ _ => rfl) (fun t u hu => by simp at hu; rcases hu with rfl | rfl | rfl <;> rfl)
structure Dk where
  S : List (List Sec)
  off : Bool
  fuse : Int

def hd (l : List Sec) : Sec := l.headD []
def lst (l : List Sec) : Sec := l.getLastD []
/-- Well made, with at most m bytes sequences a sector. -/
structure Dk.ok (D : Dk) (m : Nat) : Prop where
  len : 1 ≤ D.S.length ∧ D.S.length ≤ 4096
  fuse : 0 ≤ D.fuse ∧ D.fuse ≤ 9223372036854775807
  all : ∀ l ∈ D.S, l ≠ [] ∧ l.length ≤ m ∧ ∀ s ∈ l, s.length = 64
theorem Dk.ok.mono {D : Dk} {m m' : Nat} (h : D.ok m) (hm : m ≤ m') : D.ok m' := ⟨h.len, h.fuse, fun l hl => ⟨(h.all l hl).1, Nat.le_trans (h.all l hl).2.1 hm, (h.all l hl).2.2⟩⟩

def Dk.errOf (D : Dk) (k : Int) : Int := if k < 0 ∨ (D.S.length : Int) ≤ k then 5 else if D.off then 10 else 0
def Dk.spend (D : Dk) : Dk := if 0 < D.fuse then { D with fuse := D.fuse - 1, off := decide (D.fuse - 1 = 0) } else D
def Dk.at (D : Dk) (k : Int) : List Sec := D.S.getD k.toNat []
def Dk.read (D : Dk) (k : Int) : Sec × Int := if D.errOf k = 0 then (lst (D.at k), 0) else ([], D.errOf k)
def Dk.add (D : Dk) (k : Int) (b : Sec) : Dk := { D with S := D.S.set k.toNat (D.at k ++ [b]) }
def Dk.writeE (D : Dk) (k : Int) (b : Sec) : Int := if b.length = 64 then D.errOf k else 1
def Dk.write (D : Dk) (k : Int) (b : Sec) : Dk := if b.length = 64 ∧ D.errOf k = 0 then (D.add k b).spend else D
def Dk.flushE (D : Dk) : Int := if D.off then 10 else 0
def Dk.flushed (D : Dk) : Dk := { D with S := D.S.map fun l => [lst l] }
def Dk.flush (D : Dk) : Dk := if D.off then D else D.flushed.spend
def Dk.blow (D : Dk) (n : Int) : Dk := if D.off then D else { D with fuse := if n < 0 then 0 else n, off := decide (n = 0) }
/-- What survives. -/
def nth (l : List Sec) (i : Nat) : Sec := l.getD i []
def limit (n most : Int) : Int := if n < 0 then 0 else if most < n then most else n
def surv (l : List Sec) (w b : Int) : Sec :=
  let i := (limit w (l.length - 1)).toNat
  if i + 1 < l.length then (nth l (i + 1)).take (limit b 64).toNat ++ (nth l i).drop (limit b 64).toNat else nth l i
def rstep (S : List (List Sec)) (t : Torn) : List (List Sec) :=
  if 0 ≤ t.s ∧ t.s < S.length ∧ 1 < (S.getD t.s.toNat []).length then S.set t.s.toNat [surv (S.getD t.s.toNat []) t.w t.b] else S
def Dk.restart (D : Dk) (ts : List Torn) : Dk := { S := (ts.foldl rstep D.S).map fun l => [hd l], off := false, fuse := 0 }
def fresh (n : Nat) : Dk := { S := List.replicate n [List.replicate 64 0], off := false, fuse := 0 }

theorem fresh_ok {n : Nat} (h1 : 1 ≤ n) (h2 : n ≤ 4096) : (fresh n).ok 1 := ⟨by simp [fresh]; omega, by simp [fresh], fun l hl => by
  simp only [fresh] at hl
  have := List.eq_of_mem_replicate hl
  subst this
  exact ⟨by simp, by simp, fun s hs => by simp at hs; subst hs; simp⟩⟩
theorem Dk.errOf_zero {D : Dk} {k : Int} : D.errOf k = 0 ↔ 0 ≤ k ∧ k < D.S.length ∧ D.off = false := by
  unfold Dk.errOf
  split
  · rename_i h; constructor
    · intro h'; cases h'
    · rintro ⟨h1, h2, _⟩; omega
  · rename_i h
    split
    · rename_i h2; constructor
      · intro h'; cases h'
      · rintro ⟨_, _, h3⟩; rw [h3] at h2; cases h2
    · rename_i h2
      exact ⟨fun _ => ⟨by omega, by omega, by simpa using h2⟩, fun _ => rfl⟩
theorem Dk.at_mem {D : Dk} {k : Int} (h0 : 0 ≤ k) (h1 : k < D.S.length) : D.S[k.toNat]? = some (D.at k) := by
  have h : k.toNat < D.S.length := by omega
  simp [Dk.at, List.getElem?_eq_getElem h]
theorem mem_of {α : Type} {l : List α} {i : Nat} {x : α} (h : l[i]? = some x) : x ∈ l := List.mem_of_getElem? h
theorem lst_mem {l : List Sec} (h : l ≠ []) : lst l ∈ l := by
  rw [lst, List.getLastD_eq_getLast?, List.getLast?_eq_some_getLast h]; exact List.getLast_mem h
theorem hd_mem {l : List Sec} (h : l ≠ []) : hd l ∈ l := by
  cases l with
  | nil => exact absurd rfl h
  | cons x l => simp [hd]
theorem Dk.spend_S (D : Dk) : D.spend.S = D.S := by unfold Dk.spend; split <;> rfl
theorem Dk.ok.spend {D : Dk} {m : Nat} (h : D.ok m) : D.spend.ok m := by
  refine ⟨by rw [Dk.spend_S]; exact h.len, ?_, by rw [Dk.spend_S]; exact h.all⟩
  unfold Dk.spend
  have := h.fuse
  split
  · simp only; omega
  · exact h.fuse
theorem mem_set {α : Type} {l : List α} {i : Nat} {x y : α} (h : y ∈ l.set i x) : y = x ∨ y ∈ l := by
  rcases List.mem_or_eq_of_mem_set h with h | h
  · exact .inr h
  · exact .inl h
theorem Dk.ok.add {D : Dk} {m : Nat} {k : Int} {b : Sec} (h : D.ok m) (h0 : 0 ≤ k) (h1 : k < D.S.length) (hb : b.length = 64) : (D.add k b).ok (m + 1) := by
  refine ⟨by simpa [Dk.add] using h.len, h.fuse, fun l hl => ?_⟩
  rcases mem_set hl with rfl | hl
  · obtain ⟨e1, e2, e3⟩ := h.all _ (mem_of (Dk.at_mem h0 h1))
    refine ⟨by simp, by simp; omega, fun s hs => ?_⟩
    rcases List.mem_append.1 hs with hs | hs
    · exact e3 s hs
    · simp at hs; subst hs; exact hb
  · obtain ⟨e1, e2, e3⟩ := h.all l hl
    exact ⟨e1, by omega, e3⟩
theorem Dk.ok.write {D : Dk} {m : Nat} (h : D.ok m) (k : Int) (b : Sec) : (D.write k b).ok (m + 1) := by
  unfold Dk.write
  split
  · rename_i hc
    obtain ⟨h0, h1, _⟩ := Dk.errOf_zero.1 hc.2
    exact (h.add h0 h1 hc.1).spend
  · exact h.mono (by omega)
theorem Dk.ok.flushed {D : Dk} {m : Nat} (h : D.ok m) : D.flushed.ok 1 := by
  refine ⟨by simpa [Dk.flushed] using h.len, h.fuse, fun l hl => ?_⟩
  obtain ⟨l0, hl0, rfl⟩ := List.mem_map.1 hl
  exact ⟨by simp, by simp, fun s hs => by simp at hs; subst hs; exact (h.all l0 hl0).2.2 _ (lst_mem (h.all l0 hl0).1)⟩
theorem Dk.ok.flush {D : Dk} {m : Nat} (h : D.ok m) (hm : 1 ≤ m) : D.flush.ok m := by
  unfold Dk.flush
  split
  · exact h
  · exact h.flushed.spend.mono hm
theorem Dk.ok.blow {D : Dk} {m : Nat} {n : Int} (h : D.ok m) (h2 : n ≤ 9223372036854775807) : (D.blow n).ok m := by
  unfold Dk.blow
  split
  · exact h
  · refine ⟨h.len, ?_, h.all⟩
    simp only; split <;> omega
theorem limit_bd {n most : Int} (h : 0 ≤ most) : 0 ≤ limit n most ∧ limit n most ≤ most := by unfold limit; split <;> (try split) <;> omega
theorem nth_mem {l : List Sec} {i : Nat} (h : i < l.length) : nth l i ∈ l := by rw [nth, List.getD_eq_getElem?_getD, List.getElem?_eq_getElem h]; exact List.getElem_mem h
theorem surv_length {l : List Sec} {w b : Int} (hl : l ≠ []) (h : ∀ s ∈ l, s.length = 64) : (surv l w b).length = 64 := by
  have hpos := List.length_pos_iff.2 hl
  obtain ⟨h1, h2⟩ := limit_bd (n := w) (most := (l.length : Int) - 1) (by omega)
  obtain ⟨h3, h4⟩ := limit_bd (n := b) (most := 64) (by omega)
  unfold surv
  simp only
  split
  · rename_i hlt
    have e1 := h _ (nth_mem hlt)
    have e2 := h _ (nth_mem (Nat.lt_of_succ_lt hlt))
    rw [List.length_append, List.length_take, List.length_drop, e1, e2]; omega
  · exact h _ (nth_mem (by omega))
theorem rstep_len (S : List (List Sec)) (t : Torn) : (rstep S t).length = S.length := by unfold rstep; split <;> simp
theorem foldl_len (ts : List Torn) : ∀ (S : List (List Sec)), (ts.foldl rstep S).length = S.length := by
  induction ts with
  | nil => exact fun _ => rfl
  | cons t ts ih => exact fun S => by rw [List.foldl_cons, ih, rstep_len]
theorem rstep_all {S : List (List Sec)} {m : Nat} (hm : 1 ≤ m) (t : Torn) (h : ∀ l ∈ S, l ≠ [] ∧ l.length ≤ m ∧ ∀ s ∈ l, s.length = 64) : ∀ l ∈ rstep S t, l ≠ [] ∧ l.length ≤ m ∧ ∀ s ∈ l, s.length = 64 := by
  intro l hl
  unfold rstep at hl
  split at hl
  · rename_i hc
    rcases mem_set hl with rfl | hl
    · refine ⟨by simp, by simpa using hm, fun s hs => ?_⟩
      simp at hs; subst hs
      have hmem : S.getD t.s.toNat [] ∈ S := by
        have : t.s.toNat < S.length := by omega
        rw [List.getD_eq_getElem?_getD, List.getElem?_eq_getElem this]; exact List.getElem_mem this
      exact surv_length (h _ hmem).1 (h _ hmem).2.2
    · exact h l hl
  · exact h l hl
theorem foldl_all {m : Nat} (hm : 1 ≤ m) (ts : List Torn) : ∀ {S : List (List Sec)}, (∀ l ∈ S, l ≠ [] ∧ l.length ≤ m ∧ ∀ s ∈ l, s.length = 64) → ∀ l ∈ ts.foldl rstep S, l ≠ [] ∧ l.length ≤ m ∧ ∀ s ∈ l, s.length = 64 := by
  induction ts with
  | nil => exact fun h => h
  | cons t ts ih => exact fun h => by rw [List.foldl_cons]; exact ih (rstep_all hm t h)
theorem Dk.ok.restart {D : Dk} {m : Nat} (h : D.ok m) (hm : 1 ≤ m) (ts : List Torn) : (D.restart ts).ok 1 := by
  refine ⟨by simpa [Dk.restart, foldl_len] using h.len, by simp [Dk.restart], fun l hl => ?_⟩
  obtain ⟨l0, hl0, rfl⟩ := List.mem_map.1 hl
  obtain ⟨e1, _, e3⟩ := foldl_all hm ts h.all l0 hl0
  exact ⟨by simp, by simp, fun s hs => by simp at hs; subst hs; exact e3 _ (hd_mem e1)⟩

/- THE MAP OF UNFLUSHED WRITES -/
abbrev Ent3 := Int × Tri × List Sec
def ent (x : Ent3) : Int × Value := (x.1, tv x.2.1)
/-- These entries are the unflushed writes of S. -/
def Pnd (xs : List Ent3) (S : List (List Sec)) : Prop :=
  (∀ x ∈ xs, 0 ≤ x.1 ∧ ∃ l, S[x.1.toNat]? = some l ∧ l.tail = x.2.2 ∧ x.2.2 ≠ []) ∧ (∀ (k : Nat) (l : List Sec), S[k]? = some l → l.tail ≠ [] → ∃ x ∈ xs, x.1 = (k : Int)) ∧ (xs.map (·.1)).Nodup
def own (e : TypeId) (x : Ent3) : Assn := Buf (RArr8 64) e x.2.1.1 x.2.1.2.1 x.2.1.2.2 x.2.2
def Pend (e : TypeId) (b : Nat) (S : List (List Sec)) : Assn := Exp (fun xs => Pnd xs S) (fun xs => [Mp b (xs.map ent), Each (own e) xs])

theorem ent_keys (xs : List Ent3) : (xs.map ent).map (·.1) = xs.map (·.1) := by simp [ent]
theorem mget_ent {xs : List Ent3} (hn : (xs.map (·.1)).Nodup) {x : Ent3} (hx : x ∈ xs) : mget (xs.map ent) x.1 = some (tv x.2.1) :=
  mget_of_mem (x := ent x) (by rw [ent_keys]; exact hn) (List.mem_map_of_mem hx)
theorem mget_ent_none {xs : List Ent3} {k : Int} (h : ∀ x ∈ xs, x.1 ≠ k) : mget (xs.map ent) k = none :=
  mget_none fun y hy => by obtain ⟨x, hx, rfl⟩ := List.mem_map.1 hy; exact h x hx
/-- What looking for a key gives. -/
theorem Pnd.look {xs : List Ent3} {S : List (List Sec)} (h : Pnd xs S) {k : Nat} {l : List Sec} (hk : S[k]? = some l) :
    (l.tail = [] ∧ mget (xs.map ent) k = none ∧ ∀ x ∈ xs, x.1 ≠ (k : Int)) ∨ (l.tail ≠ [] ∧ ∃ (i : Nat) (a : Option Addr) (m c : Nat), xs[i]? = some ((k : Int), (a, m, c), l.tail) ∧ mget (xs.map ent) k = some (.slice a m c)) := by
  by_cases ht : l.tail = []
  · have hno : ∀ x ∈ xs, x.1 ≠ (k : Int) := fun x hx e => by
      obtain ⟨_, l', h1, h2, h3⟩ := h.1 x hx
      rw [e, Int.toNat_natCast, hk] at h1
      cases h1
      exact h3 (h2 ▸ ht)
    exact .inl ⟨ht, mget_ent_none hno, hno⟩
  · obtain ⟨x, hx, e⟩ := h.2.1 k l hk ht
    obtain ⟨_, l', h1, h2, h3⟩ := h.1 x hx
    rw [e, Int.toNat_natCast, hk] at h1
    cases h1
    obtain ⟨i, hi⟩ := List.getElem?_of_mem hx
    refine .inr ⟨ht, i, x.2.1.1, x.2.1.2.1, x.2.1.2.2, ?_, ?_⟩
    · rw [hi, ← e, h2]
    · rw [← e]; exact mget_ent h.2.2 hx
theorem mdel_ent (xs : List Ent3) (k : Int) : mdel (xs.map ent) k = (xs.filter (fun x => x.1 ≠ k)).map ent := by
  simp only [mdel, List.filter_map]; rfl
theorem filter_nodup {xs : List Ent3} (h : (xs.map (·.1)).Nodup) (k : Int) : ((xs.filter (fun x => x.1 ≠ k)).map (·.1)).Nodup := (List.filter_sublist.map _).nodup h
/-- The entry of k is put anew. -/
theorem Pnd.put {xs : List Ent3} {S : List (List Sec)} (h : Pnd xs S) {k : Nat} {l l' : List Sec} (hk : S[k]? = some l) (t : Tri) (hl' : l'.tail ≠ []) : Pnd (((k : Int), t, l'.tail) :: xs.filter (fun x => x.1 ≠ (k : Int))) (S.set k l') := by
  have hlt : k < S.length := (List.getElem?_eq_some_iff.1 hk).1
  refine ⟨fun x hx => ?_, fun j l2 hj ht => ?_, ?_⟩
  · rcases List.mem_cons.1 hx with rfl | hx
    · exact ⟨by simp, l', by simp [hlt], rfl, hl'⟩
    · rw [List.mem_filter] at hx
      obtain ⟨h0, l2, h1, h2, h3⟩ := h.1 x hx.1
      have hne : ¬ k = x.1.toNat := fun e => by have h4 := hx.2; simp at h4; omega
      exact ⟨h0, l2, by rw [List.getElem?_set_ne hne]; exact h1, h2, h3⟩
  · by_cases e : k = j
    · subst e; exact ⟨_, List.mem_cons_self .., rfl⟩
    · rw [List.getElem?_set_ne e] at hj
      obtain ⟨x, hx, e2⟩ := h.2.1 j l2 hj ht
      exact ⟨x, List.mem_cons_of_mem _ (List.mem_filter.2 ⟨hx, by simp; omega⟩), e2⟩
  · rw [List.map_cons, List.nodup_cons]
    refine ⟨fun hm => ?_, filter_nodup h.2.2 _⟩
    obtain ⟨x, hx, e⟩ := List.mem_map.1 hm
    rw [List.mem_filter] at hx
    simp at hx; exact hx.2 e
/-- The entry of k is taken away. -/
theorem Pnd.del {xs : List Ent3} {S : List (List Sec)} (h : Pnd xs S) {k : Nat} {s : Sec} : Pnd (xs.filter (fun x => x.1 ≠ (k : Int))) (S.set k [s]) := by
  refine ⟨fun x hx => ?_, fun j l2 hj ht => ?_, filter_nodup h.2.2 _⟩
  · rw [List.mem_filter] at hx
    obtain ⟨h0, l2, h1, h2, h3⟩ := h.1 x hx.1
    have hne : ¬ k = x.1.toNat := fun e => by have h4 := hx.2; simp at h4; omega
    exact ⟨h0, l2, by rw [List.getElem?_set_ne hne]; exact h1, h2, h3⟩
  · by_cases e : k = j
    · subst e
      have hlt : k < S.length := by have := (List.getElem?_eq_some_iff.1 hj).1; simpa using this
      rw [List.getElem?_set_self hlt] at hj; cases hj; exact absurd rfl ht
    · rw [List.getElem?_set_ne e] at hj
      obtain ⟨x, hx, e2⟩ := h.2.1 j l2 hj ht
      exact ⟨x, List.mem_filter.2 ⟨hx, by simp; omega⟩, e2⟩
theorem Pnd.none {S : List (List Sec)} (h : ∀ l ∈ S, l.tail = []) : Pnd [] S := ⟨fun _ hx => absurd hx List.not_mem_nil, fun _ l hk ht => absurd (h l (mem_of hk)) ht, List.nodup_nil⟩
/-- Taking the i-th away is taking its key away. -/
theorem erase_filter {xs : List Ent3} (hn : (xs.map (·.1)).Nodup) {i : Nat} {x : Ent3} (hi : xs[i]? = some x) : xs.eraseIdx i = xs.filter (fun y => y.1 ≠ x.1) := by
  induction xs generalizing i with
  | nil => cases hi
  | cons y ys ih =>
    rw [List.map_cons, List.nodup_cons] at hn
    cases i with
    | zero =>
      simp at hi; subst hi
      rw [List.eraseIdx_zero, List.tail_cons, List.filter_cons_of_neg (by simp)]
      exact (List.filter_eq_self.2 fun z hz => by simp only [ne_eq, decide_eq_true_eq]; intro e; exact hn.1 (e ▸ List.mem_map_of_mem (f := fun (q : Ent3) => q.1) hz)).symm
    | succ i =>
      rw [List.getElem?_cons_succ] at hi
      have hne : y.1 ≠ x.1 := fun e => hn.1 (e ▸ List.mem_map_of_mem (f := fun (q : Ent3) => q.1) (mem_of hi))
      rw [List.eraseIdx_cons_succ, List.filter_cons_of_pos (by simpa using hne), ih hn.2 hi]
theorem filter_absent {xs : List Ent3} {k : Int} (h : ∀ x ∈ xs, x.1 ≠ k) : xs.filter (fun y => y.1 ≠ k) = xs := List.filter_eq_self.2 fun x hx => by simpa using h x hx
section
variable {e : TypeId} {b : Nat} {xs : List Ent3} {S : List (List Sec)} {L : List Assn}
theorem Pend.close (h : Pnd xs S) : Ent (Mp b (xs.map ent) :: Each (own e) xs :: L) (Pend e b S :: L) := Exp.close (ι := List Ent3) (p := fun xs => Pnd xs S) (A := fun xs => [Mp b (xs.map ent), Each (own e) xs]) xs h
end
end Go.Dsk
