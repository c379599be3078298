/- Disks and logs, in plain Lean. -/
import Derived.Test.YtcbloadpffjkiaaDoorKernB
namespace Go.Dsk
open Go.Wk

abbrev Sec := List UInt8
structure Torn where
  s : Int
  w : Int
  b : Int
def RTorn : Rep Torn := Rep.dt 3 (fun t => [vI t.s, vI t.w, vI t.b]) (fun t => inInt t.s ∧ inInt t.w ∧ inInt t.b) (fun _ _ => rfl) (fun t u hu => by simp at hu; rcases hu with rfl | rfl | rfl <;> rfl)
structure Dk where
  S : List (List Sec)
  off : Bool
  fuse : Int

def hd (l : List Sec) : Sec := l.headD []
def lst (l : List Sec) : Sec := l.getLastD []
/-- Well made, with at most m bytes sequences a sector. -/
structure Dk.ok (D : Dk) (m : Nat) : Prop where
  len : 1 ≤ D.S.length ∧ D.S.length ≤ 4096
  fuse : 0 ≤ D.fuse ∧ D.fuse ≤ 9223372036854775807
  all : ∀ l ∈ D.S, l ≠ [] ∧ l.length ≤ m ∧ ∀ s ∈ l, s.length = 64
theorem Dk.ok.mono {D : Dk} {m m' : Nat} (h : D.ok m) (hm : m ≤ m') : D.ok m' := ⟨h.len, h.fuse, fun l hl => ⟨(h.all l hl).1, Nat.le_trans (h.all l hl).2.1 hm, (h.all l hl).2.2⟩⟩

def Dk.errOf (D : Dk) (k : Int) : Int := if k < 0 ∨ (D.S.length : Int) ≤ k then 5 else if D.off then 10 else 0
def Dk.spend (D : Dk) : Dk := if 0 < D.fuse then { D with fuse := D.fuse - 1, off := decide (D.fuse - 1 = 0) } else D
def Dk.at (D : Dk) (k : Int) : List Sec := D.S.getD k.toNat []
def Dk.read (D : Dk) (k : Int) : Sec × Int := if D.errOf k = 0 then (lst (D.at k), 0) else ([], D.errOf k)
def Dk.add (D : Dk) (k : Int) (b : Sec) : Dk := { D with S := D.S.set k.toNat (D.at k ++ [b]) }
def Dk.writeE (D : Dk) (k : Int) (b : Sec) : Int := if b.length = 64 then D.errOf k else 1
def Dk.write (D : Dk) (k : Int) (b : Sec) : Dk := if b.length = 64 ∧ D.errOf k = 0 then (D.add k b).spend else D
def Dk.flushE (D : Dk) : Int := if D.off then 10 else 0
def Dk.flushed (D : Dk) : Dk := { D with S := D.S.map fun l => [lst l] }
def Dk.flush (D : Dk) : Dk := if D.off then D else D.flushed.spend
def Dk.blow (D : Dk) (n : Int) : Dk := if D.off then D else { D with fuse := if n < 0 then 0 else n, off := decide (n = 0) }
/-- What survives. -/
def nth (l : List Sec) (i : Nat) : Sec := l.getD i []
def limit (n most : Int) : Int := if n < 0 then 0 else if most < n then most else n
def surv (l : List Sec) (w b : Int) : Sec :=
  let i := (limit w (l.length - 1)).toNat
  if i + 1 < l.length then (nth l (i + 1)).take (limit b 64).toNat ++ (nth l i).drop (limit b 64).toNat else nth l i
def rstep (S : List (List Sec)) (t : Torn) : List (List Sec) :=
  if 0 ≤ t.s ∧ t.s < S.length ∧ 1 < (S.getD t.s.toNat []).length then S.set t.s.toNat [surv (S.getD t.s.toNat []) t.w t.b] else S
def Dk.restart (D : Dk) (ts : List Torn) : Dk := { S := (ts.foldl rstep D.S).map fun l => [hd l], off := false, fuse := 0 }
def fresh (n : Nat) : Dk := { S := List.replicate n [List.replicate 64 0], off := false, fuse := 0 }

theorem fresh_ok {n : Nat} (h1 : 1 ≤ n) (h2 : n ≤ 4096) : (fresh n).ok 1 := ⟨by simp [fresh]; omega, by simp [fresh], fun l hl => by
  simp only [fresh] at hl
  have := List.eq_of_mem_replicate hl
  subst this
  exact ⟨by simp, by simp, fun s hs => by simp at hs; subst hs; simp⟩⟩
theorem Dk.errOf_zero {D : Dk} {k : Int} : D.errOf k = 0 ↔ 0 ≤ k ∧ k < D.S.length ∧ D.off = false := by
  unfold Dk.errOf
  split
  · rename_i h; constructor
    · intro h'; cases h'
    · rintro ⟨h1, h2, _⟩; omega
  · rename_i h
    split
    · rename_i h2; constructor
      · intro h'; cases h'
      · rintro ⟨_, _, h3⟩; rw [h3] at h2; cases h2
    · rename_i h2
      exact ⟨fun _ => ⟨by omega, by omega, by simpa using h2⟩, fun _ => rfl⟩
theorem Dk.at_mem {D : Dk} {k : Int} (h0 : 0 ≤ k) (h1 : k < D.S.length) : D.S[k.toNat]? = some (D.at k) := by
  have h : k.toNat < D.S.length := by omega
  simp [Dk.at, List.getElem?_eq_getElem h]
theorem mem_of {α : Type} {l : List α} {i : Nat} {x : α} (h : l[i]? = some x) : x ∈ l := List.mem_of_getElem? h
theorem lst_mem {l : List Sec} (h : l ≠ []) : lst l ∈ l := by
  rw [lst, List.getLastD_eq_getLast?, List.getLast?_eq_some_getLast h]; exact List.getLast_mem h
theorem hd_mem {l : List Sec} (h : l ≠ []) : hd l ∈ l := by
  cases l with
  | nil => exact absurd rfl h
  | cons x l => simp [hd]
theorem Dk.spend_S (D : Dk) : D.spend.S = D.S := by unfold Dk.spend; split <;> rfl
theorem Dk.ok.spend {D : Dk} {m : Nat} (h : D.ok m) : D.spend.ok m := by
  refine ⟨by rw [Dk.spend_S]; exact h.len, ?_, by rw [Dk.spend_S]; exact h.all⟩
  unfold Dk.spend
  have := h.fuse
  split
  · simp only; omega
  · exact h.fuse
theorem mem_set {α : Type} {l : List α} {i : Nat} {x y : α} (h : y ∈ l.set i x) : y = x ∨ y ∈ l := by
  rcases List.mem_or_eq_of_mem_set h with h | h
  · exact .inr h
  · exact .inl h
theorem Dk.ok.add {D : Dk} {m : Nat} {k : Int} {b : Sec} (h : D.ok m) (h0 : 0 ≤ k) (h1 : k < D.S.length) (hb : b.length = 64) : (D.add k b).ok (m + 1) := by
  refine ⟨by simpa [Dk.add] using h.len, h.fuse, fun l hl => ?_⟩
  rcases mem_set hl with rfl | hl
  · obtain ⟨e1, e2, e3⟩ := h.all _ (mem_of (Dk.at_mem h0 h1))
    refine ⟨by simp, by simp; omega, fun s hs => ?_⟩
    rcases List.mem_append.1 hs with hs | hs
    · exact e3 s hs
    · simp at hs; subst hs; exact hb
  · obtain ⟨e1, e2, e3⟩ := h.all l hl
    exact ⟨e1, by omega, e3⟩
theorem Dk.ok.write {D : Dk} {m : Nat} (h : D.ok m) (k : Int) (b : Sec) : (D.write k b).ok (m + 1) := by
  unfold Dk.write
  split
  · rename_i hc
    obtain ⟨h0, h1, _⟩ := Dk.errOf_zero.1 hc.2
    exact (h.add h0 h1 hc.1).spend
  · exact h.mono (by omega)
theorem Dk.ok.flushed {D : Dk} {m : Nat} (h : D.ok m) : D.flushed.ok 1 := by
  refine ⟨by simpa [Dk.flushed] using h.len, h.fuse, fun l hl => ?_⟩
  obtain ⟨l0, hl0, rfl⟩ := List.mem_map.1 hl
  exact ⟨by simp, by simp, fun s hs => by simp at hs; subst hs; exact (h.all l0 hl0).2.2 _ (lst_mem (h.all l0 hl0).1)⟩
theorem Dk.ok.flush {D : Dk} {m : Nat} (h : D.ok m) (hm : 1 ≤ m) : D.flush.ok m := by
  unfold Dk.flush
  split
  · exact h
  · exact h.flushed.spend.mono hm
theorem Dk.ok.blow {D : Dk} {m : Nat} {n : Int} (h : D.ok m) (h2 : n ≤ 9223372036854775807) : (D.blow n).ok m := by
  unfold Dk.blow
  split
  · exact h
  · refine ⟨h.len, ?_, h.all⟩
    simp only; split <;> omega
theorem limit_bd {n most : Int} (h : 0 ≤ most) : 0 ≤ limit n most ∧ limit n most ≤ most := by unfold limit; split <;> (try split) <;> omega
theorem nth_mem {l : List Sec} {i : Nat} (h : i < l.length) : nth l i ∈ l := by rw [nth, List.getD_eq_getElem?_getD, List.getElem?_eq_getElem h]; exact List.getElem_mem h
theorem surv_length {l : List Sec} {w b : Int} (hl : l ≠ []) (h : ∀ s ∈ l, s.length = 64) : (surv l w b).length = 64 := by
  have hpos := List.length_pos_iff.2 hl
  obtain ⟨h1, h2⟩ := limit_bd (n := w) (most := (l.length : Int) - 1) (by omega)
  obtain ⟨h3, h4⟩ := limit_bd (n := b) (most := 64) (by omega)
  unfold surv
  simp only
  split
  · rename_i hlt
    have e1 := h _ (nth_mem hlt)
    have e2 := h _ (nth_mem (Nat.lt_of_succ_lt hlt))
    rw [List.length_append, List.length_take, List.length_drop, e1, e2]; omega
  · exact h _ (nth_mem (by omega))
theorem rstep_len (S : List (List Sec)) (t : Torn) : (rstep S t).length = S.length := by unfold rstep; split <;> simp
theorem foldl_len (ts : List Torn) : ∀ (S : List (List Sec)), (ts.foldl rstep S).length = S.length := by
  induction ts with
  | nil => exact fun _ => rfl
  | cons t ts ih => exact fun S => by rw [List.foldl_cons, ih, rstep_len]
theorem rstep_all {S : List (List Sec)} {m : Nat} (hm : 1 ≤ m) (t : Torn) (h : ∀ l ∈ S, l ≠ [] ∧ l.length ≤ m ∧ ∀ s ∈ l, s.length = 64) : ∀ l ∈ rstep S t, l ≠ [] ∧ l.length ≤ m ∧ ∀ s ∈ l, s.length = 64 := by
  intro l hl
  unfold rstep at hl
  split at hl
  · rename_i hc
    rcases mem_set hl with rfl | hl
    · refine ⟨by simp, by simpa using hm, fun s hs => ?_⟩
      simp at hs; subst hs
      have hmem : S.getD t.s.toNat [] ∈ S := by
        have : t.s.toNat < S.length := by omega
        rw [List.getD_eq_getElem?_getD, List.getElem?_eq_getElem this]; exact List.getElem_mem this
      exact surv_length (h _ hmem).1 (h _ hmem).2.2
    · exact h l hl
  · exact h l hl
theorem foldl_all {m : Nat} (hm : 1 ≤ m) (ts : List Torn) : ∀ {S : List (List Sec)}, (∀ l ∈ S, l ≠ [] ∧ l.length ≤ m ∧ ∀ s ∈ l, s.length = 64) → ∀ l ∈ ts.foldl rstep S, l ≠ [] ∧ l.length ≤ m ∧ ∀ s ∈ l, s.length = 64 := by
  induction ts with
  | nil => exact fun h => h
  | cons t ts ih => exact fun h => by rw [List.foldl_cons]; exact ih (rstep_all hm t h)
theorem Dk.ok.restart {D : Dk} {m : Nat} (h : D.ok m) (hm : 1 ≤ m) (ts : List Torn) : (D.restart ts).ok 1 := by
  refine ⟨by simpa [Dk.restart, foldl_len] using h.len, by simp [Dk.restart], fun l hl => ?_⟩
  obtain ⟨l0, hl0, rfl⟩ := List.mem_map.1 hl
  obtain ⟨e1, _, e3⟩ := foldl_all hm ts h.all l0 hl0
  exact ⟨by simp, by simp, fun s hs => by simp at hs; subst hs; exact e3 _ (hd_mem e1)⟩

/- THE MAP OF UNFLUSHED WRITES -/
abbrev Ent3 := Int × Tri × List Sec
def ent (x : Ent3) : Int × Value := (x.1, tv x.2.1)
/-- These entries are the unflushed writes of S. -/
def Pnd (xs : List Ent3) (S : List (List Sec)) : Prop :=
  (∀ x ∈ xs, 0 ≤ x.1 ∧ ∃ l, S[x.1.toNat]? = some l ∧ l.tail = x.2.2 ∧ x.2.2 ≠ []) ∧ (∀ (k : Nat) (l : List Sec), S[k]? = some l → l.tail ≠ [] → ∃ x ∈ xs, x.1 = (k : Int)) ∧ (xs.map (·.1)).Nodup
def own (e : TypeId) (x : Ent3) : Assn := Buf (RArr8 64) e x.2.1.1 x.2.1.2.1 x.2.1.2.2 x.2.2
def Pend (e : TypeId) (b : Nat) (S : List (List Sec)) : Assn := Exp (fun xs => Pnd xs S) (fun xs => [Mp b (xs.map ent), Each (own e) xs])

theorem ent_keys (xs : List Ent3) : (xs.map ent).map (·.1) = xs.map (·.1) := by simp [ent]
theorem mget_ent {xs : List Ent3} (hn : (xs.map (·.1)).Nodup) {x : Ent3} (hx : x ∈ xs) : mget (xs.map ent) x.1 = some (tv x.2.1) :=
  mget_of_mem (x := ent x) (by rw [ent_keys]; exact hn) (List.mem_map_of_mem hx)
theorem mget_ent_none {xs : List Ent3} {k : Int} (h : ∀ x ∈ xs, x.1 ≠ k) : mget (xs.map ent) k = none :=
  mget_none fun y hy => by obtain ⟨x, hx, rfl⟩ := List.mem_map.1 hy; exact h x hx
/-- What looking for a key gives. -/
theorem Pnd.look {xs : List Ent3} {S : List (List Sec)} (h : Pnd xs S) {k : Nat} {l : List Sec} (hk : S[k]? = some l) :
    (l.tail = [] ∧ mget (xs.map ent) k = none ∧ ∀ x ∈ xs, x.1 ≠ (k : Int)) ∨ (l.tail ≠ [] ∧ ∃ (i : Nat) (a : Option Addr) (m c : Nat), xs[i]? = some ((k : Int), (a, m, c), l.tail) ∧ mget (xs.map ent) k = some (.slice a m c)) := by
  by_cases ht : l.tail = []
  · have hno : ∀ x ∈ xs, x.1 ≠ (k : Int) := fun x hx e => by
      obtain ⟨_, l', h1, h2, h3⟩ := h.1 x hx
      rw [e, Int.toNat_natCast, hk] at h1
      cases h1
      exact h3 (h2 ▸ ht)
    exact .inl ⟨ht, mget_ent_none hno, hno⟩
  · obtain ⟨x, hx, e⟩ := h.2.1 k l hk ht
    obtain ⟨_, l', h1, h2, h3⟩ := h.1 x hx
    rw [e, Int.toNat_natCast, hk] at h1
    cases h1
    obtain ⟨i, hi⟩ := List.getElem?_of_mem hx
    refine .inr ⟨ht, i, x.2.1.1, x.2.1.2.1, x.2.1.2.2, ?_, ?_⟩
    · rw [hi, ← e, h2]
    · rw [← e]; exact mget_ent h.2.2 hx
theorem mdel_ent (xs : List Ent3) (k : Int) : mdel (xs.map ent) k = (xs.filter (fun x => x.1 ≠ k)).map ent := by
  simp only [mdel, List.filter_map]; rfl
theorem filter_nodup {xs : List Ent3} (h : (xs.map (·.1)).Nodup) (k : Int) : ((xs.filter (fun x => x.1 ≠ k)).map (·.1)).Nodup := (List.filter_sublist.map _).nodup h
/-- The entry of k is put anew. -/
theorem Pnd.put {xs : List Ent3} {S : List (List Sec)} (h : Pnd xs S) {k : Nat} {l l' : List Sec} (hk : S[k]? = some l) (t : Tri) (hl' : l'.tail ≠ []) : Pnd (((k : Int), t, l'.tail) :: xs.filter (fun x => x.1 ≠ (k : Int))) (S.set k l') := by
  have hlt : k < S.length := (List.getElem?_eq_some_iff.1 hk).1
  refine ⟨fun x hx => ?_, fun j l2 hj ht => ?_, ?_⟩
  · rcases List.mem_cons.1 hx with rfl | hx
    · exact ⟨by simp, l', by simp [hlt], rfl, hl'⟩
    · rw [List.mem_filter] at hx
      obtain ⟨h0, l2, h1, h2, h3⟩ := h.1 x hx.1
      have hne : ¬ k = x.1.toNat := fun e => by have h4 := hx.2; simp at h4; omega
      exact ⟨h0, l2, by rw [List.getElem?_set_ne hne]; exact h1, h2, h3⟩
  · by_cases e : k = j
    · subst e; exact ⟨_, List.mem_cons_self .., rfl⟩
    · rw [List.getElem?_set_ne e] at hj
      obtain ⟨x, hx, e2⟩ := h.2.1 j l2 hj ht
      exact ⟨x, List.mem_cons_of_mem _ (List.mem_filter.2 ⟨hx, by simp; omega⟩), e2⟩
  · rw [List.map_cons, List.nodup_cons]
    refine ⟨fun hm => ?_, filter_nodup h.2.2 _⟩
    obtain ⟨x, hx, e⟩ := List.mem_map.1 hm
    rw [List.mem_filter] at hx
    simp at hx; exact hx.2 e
/-- The entry of k is taken away. -/
theorem Pnd.del {xs : List Ent3} {S : List (List Sec)} (h : Pnd xs S) {k : Nat} {s : Sec} : Pnd (xs.filter (fun x => x.1 ≠ (k : Int))) (S.set k [s]) := by
  refine ⟨fun x hx => ?_, fun j l2 hj ht => ?_, filter_nodup h.2.2 _⟩
  · rw [List.mem_filter] at hx
    obtain ⟨h0, l2, h1, h2, h3⟩ := h.1 x hx.1
    have hne : ¬ k = x.1.toNat := fun e => by have h4 := hx.2; simp at h4; omega
    exact ⟨h0, l2, by rw [List.getElem?_set_ne hne]; exact h1, h2, h3⟩
  · by_cases e : k = j
    · subst e
      have hlt : k < S.length := by have := (List.getElem?_eq_some_iff.1 hj).1; simpa using this
      rw [List.getElem?_set_self hlt] at hj; cases hj; exact absurd rfl ht
    · rw [List.getElem?_set_ne e] at hj
      obtain ⟨x, hx, e2⟩ := h.2.1 j l2 hj ht
      exact ⟨x, List.mem_filter.2 ⟨hx, by simp; omega⟩, e2⟩
theorem Pnd.none {S : List (List Sec)} (h : ∀ l ∈ S, l.tail = []) : Pnd [] S := ⟨fun _ hx => absurd hx List.not_mem_nil, fun _ l hk ht => absurd (h l (mem_of hk)) ht, List.nodup_nil⟩
/-- Taking the i-th away is taking its key away. -/
theorem erase_filter {xs : List Ent3} (hn : (xs.map (·.1)).Nodup) {i : Nat} {x : Ent3} (hi : xs[i]? = some x) : xs.eraseIdx i = xs.filter (fun y => y.1 ≠ x.1) := by
  induction xs generalizing i with
  | nil => cases hi
  | cons y ys ih =>
    rw [List.map_cons, List.nodup_cons] at hn
    cases i with
    | zero =>
      simp at hi; subst hi
      rw [List.eraseIdx_zero, List.tail_cons, List.filter_cons_of_neg (by simp)]
      exact (List.filter_eq_self.2 fun z hz => by simp only [ne_eq, decide_eq_true_eq]; intro e; exact hn.1 (e ▸ List.mem_map_of_mem (f := fun (q : Ent3) => q.1) hz)).symm
    | succ i =>
      rw [List.getElem?_cons_succ] at hi
      have hne : y.1 ≠ x.1 := fun e => hn.1 (e ▸ List.mem_map_of_mem (f := fun (q : Ent3) => q.1) (mem_of hi))
      rw [List.eraseIdx_cons_succ, List.filter_cons_of_pos (by simpa using hne), ih hn.2 hi]
theorem filter_absent {xs : List Ent3} {k : Int} (h : ∀ x ∈ xs, x.1 ≠ k) : xs.filter (fun y => y.1 ≠ k) = xs := List.filter_eq_self.2 fun x hx => by simpa using h x hx
section
variable {e : TypeId} {b : Nat} {xs : List Ent3} {S : List (List Sec)} {L : List Assn}
theorem Pend.close (h : Pnd xs S) : Ent (Mp b (xs.map ent) :: Each (own e) xs :: L) (Pend e b S :: L) := Exp.close (ι := List Ent3) (p := fun xs => Pnd xs S) (A := fun xs => [Mp b (xs.map ent), Each (own e) xs]) xs h
end
end Go.Dsk

namespace Go.Dsk
open Go.Wk
section
variable {e : TypeId} {b : Nat} {xs : List Ent3} {S : List (List Sec)} {L L1 L' : List Assn} {κ w : World} {k : Nat} {l : List Sec}
theorem Pend.ent (h : Pnd xs S) (hL : Ent L' (Mp b (xs.map ent) :: Each (own e) xs :: L)) : Ent L' (Pend e b S :: L) := hL.trans (Pend.close h)
/-- What is known when sector k is brought forward: es: the map's entries, xs: the other ones. -/
structure Fwd (e : TypeId) (b : Nat) (S : List (List Sec)) (k : Nat) (l : List Sec) (es : List (Int × Value)) (a : Option Addr) (m c : Nat) (xs : List Ent3) : Prop where
  look : (mget es k).getD (.slice none 0 0) = .slice a m c
  is : (mget es k).isSome = decide (l.tail ≠ [])
  back : ∀ L, Ent (Mp b es :: Buf (RArr8 64) e a m c l.tail :: Each (own e) xs :: L) (Pend e b S :: L)
  put : ∀ (a' : Option Addr) (m' c' : Nat) (l' : List Sec), l'.tail ≠ [] → ∀ L, Ent (Mp b (mput es k (.slice a' m' c')) :: Buf (RArr8 64) e a' m' c' l'.tail :: Each (own e) xs :: L) (Pend e b (S.set k l') :: L)
  del : ∀ s L, Ent (Mp b (mdel es k) :: Each (own e) xs :: L) (Pend e b (S.set k [s]) :: L)
theorem sep_fwd (hs : Sep κ w (Pend e b S :: L)) (hk : S[k]? = some l) : ∃ es a m c xs, Fwd e b S k l es a m c xs ∧ Sep κ w (Mp b es :: Buf (RArr8 64) e a m c l.tail :: Each (own e) xs :: L) := by
  obtain ⟨xs, hx, hs⟩ := hs.openExp
  rcases hx.look hk with ⟨ht, hg, hno⟩ | ⟨ht, i, a, m, c, hi, hg⟩
  · refine ⟨xs.map ent, none, 0, 0, xs, ⟨by rw [hg]; rfl, by rw [hg]; simp [ht], fun L => ?_, fun a' m' c' l' hl' L => ?_, fun s L => ?_⟩, hs.ent (Ent.frame _ ?_)⟩
    · exact Ent.trans (Ent.frame _ (Ent.drop _ _)) (Pend.close hx)
    · have := hx.put hk (a', m', c') hl'
      rw [filter_absent hno] at this
      refine Ent.trans ?_ (Pend.close this)
      have e1 : mput (xs.map ent) k (.slice a' m' c') = ((((k : Int), (a', m', c'), l'.tail) :: xs).map ent) := by
        rw [mput, mdel_ent, filter_absent hno]; rfl
      rw [e1]
      exact Ent.frame _ (Each.cons (f := own e) (x := ((k : Int), (a', m', c'), l'.tail)))
    · have := hx.del (k := k) (s := s)
      rw [filter_absent hno] at this
      rw [mdel_ent, filter_absent hno]
      exact Pend.close this
    · rw [ht]; exact Ent.trans Buf.nil (Ent.refl _)
  · have hf := erase_filter hx.2.2 hi
    refine ⟨xs.map ent, a, m, c, xs.eraseIdx i, ⟨by rw [hg]; rfl, by rw [hg]; simp [ht], fun L => ?_, fun a' m' c' l' hl' L => ?_, fun s L => ?_⟩, hs.ent (Ent.frame _ (Each.take hi))⟩
    · exact Ent.trans (Ent.frame _ (Each.back' (f := own e) hi)) (Pend.close hx)
    · have := hx.put hk (a', m', c') hl'
      rw [hf]
      refine Ent.trans ?_ (Pend.close this)
      have e1 : mput (xs.map ent) k (.slice a' m' c') = ((((k : Int), (a', m', c'), l'.tail) :: xs.filter (fun x => x.1 ≠ (k : Int))).map ent) := by
        rw [mput, mdel_ent]; rfl
      rw [e1]
      exact Ent.frame _ (Each.cons (f := own e) (x := ((k : Int), (a', m', c'), l'.tail)))
    · have := hx.del (k := k) (s := s)
      rw [hf, mdel_ent]
      exact Pend.close this
end
section
variable {P : Program} {f : FuncId} {n : Nat} {κ : World} {K : Post} {kk : List Item} {al : List (Nat × Value)} {L L1 : List Assn} {e : TypeId} {b : Nat} {S : List (List Sec)} {k : Nat} {l : List Sec}
theorem SG.fwd (hp : Pick (Pend e b S) L L1) (hk : S[k]? = some l) (h : ∀ es a m c xs, Fwd e b S k l es a m c xs → SG P f n κ K kk al (Mp b es :: Buf (RArr8 64) e a m c l.tail :: Each (own e) xs :: L1)) : SG P f n κ K kk al L := fun a' w he hs => by
  obtain ⟨es, a, m, c, xs, hF, hs'⟩ := sep_fwd (hs.ent hp) hk
  exact h es a m c xs hF a' w he hs'
theorem SG.openPend (hp : Pick (Pend e b S) L L1) (h : ∀ xs, Pnd xs S → SG P f n κ K kk al (Mp b (xs.map ent) :: Each (own e) xs :: L1)) : SG P f n κ K kk al L := SG.openExp hp h
theorem own.take {xs : List Ent3} {i : Nat} {q : Int} {a : Option Addr} {m c : Nat} {l : List Sec} (hi : xs[i]? = some (q, (a, m, c), l)) : Ent (Each (own e) xs :: L) (Buf (RArr8 64) e a m c l :: Each (own e) (xs.eraseIdx i) :: L) := Each.take hi
theorem own.back {xs : List Ent3} {i : Nat} {q : Int} {a : Option Addr} {m c : Nat} {l : List Sec} (hi : xs[i]? = some (q, (a, m, c), l)) : Ent (Buf (RArr8 64) e a m c l :: Each (own e) (xs.eraseIdx i) :: L) (Each (own e) xs :: L) := Each.back' (f := own e) hi
end
theorem last_tail {l : List Sec} (h : l.tail ≠ []) : l.tail[l.tail.length - 1]? = some (lst l) := by
  cases l with
  | nil => exact absurd rfl h
  | cons x l =>
    rw [List.tail_cons] at *
    have hp := List.length_pos_iff.2 h
    rw [← List.getLast?_eq_getElem?, lst, List.getLastD_eq_getLast?, List.getLast?_cons_of_ne_nil h, List.getLast?_eq_some_getLast h]; rfl
theorem lst_tail_nil {l : List Sec} (h : l.tail = []) : lst l = hd l := by
  cases l with
  | nil => rfl
  | cons x l => rw [List.tail_cons] at h; subst h; rfl
theorem tail_ne {l : List Sec} : l.tail ≠ [] ↔ 1 < l.length := by
  cases l with
  | nil => simp
  | cons x l => cases l <;> simp
theorem hd_tail {l : List Sec} (h : l ≠ []) : l = hd l :: l.tail := by
  cases l with
  | nil => exact absurd rfl h
  | cons x l => rfl
theorem map_hd_set {S : List (List Sec)} {k : Nat} {l : List Sec} (s : Sec) : (S.set k (s :: l)).map hd = (S.map hd).set k s := by rw [List.map_set]; rfl
theorem nth_tail {l : List Sec} {i : Nat} : nth l (i + 1) = nth l.tail i := by cases l <;> simp [nth]
theorem hd_nth (l : List Sec) : hd l = nth l 0 := by cases l <;> rfl
theorem tail_nth {l : List Sec} {i : Nat} (h : i + 1 < l.length) : l.tail[i]? = some (nth l (i + 1)) := by
  cases l with
  | nil => simp at h
  | cons x l => simp at h; simp [nth, h]

/- WHAT A LOOP OVER THE MAP HAS DONE -/
structure FlI (xs : List Ent3) (S : List (List Sec)) (rem : List (Int × Value)) (dl : List Sec) : Prop where
  sub : ∀ y ∈ rem, y ∈ xs.map ent
  nodup : (rem.map (·.1)).Nodup
  len : dl.length = S.length
  val : ∀ (k : Nat) (l : List Sec), S[k]? = some l → dl[k]? = some (if (k : Int) ∈ rem.map (·.1) then hd l else lst l)
theorem FlI.start {xs : List Ent3} {S : List (List Sec)} (h : Pnd xs S) : FlI xs S (xs.map ent) (S.map hd) := by
  refine ⟨fun _ h => h, by rw [ent_keys]; exact h.2.2, by simp, fun k l hk => ?_⟩
  rw [List.getElem?_map, hk, Option.map_some]
  congr 1
  split
  · rfl
  · rename_i hn
    refine (lst_tail_nil (Decidable.byContradiction fun ht => hn ?_)).symm
    obtain ⟨x, hx, e⟩ := h.2.1 k l hk ht
    rw [ent_keys, ← e]; exact List.mem_map_of_mem (f := fun (q : Ent3) => q.1) hx
theorem FlI.step {xs : List Ent3} {S : List (List Sec)} {rem rem' : List (Int × Value)} {dl : List Sec} {k : Nat} {v : Value} {l : List Sec} (h : FlI xs S rem dl) (hp : rem.Perm (((k : Int), v) :: rem')) (hk : S[k]? = some l) : FlI xs S rem' (dl.set k (lst l)) := by
  have hn : (((k : Int), v) :: rem').map (·.1) |>.Nodup := (hp.map _).nodup_iff.1 h.nodup
  rw [List.map_cons, List.nodup_cons] at hn
  have hlt : k < S.length := (List.getElem?_eq_some_iff.1 hk).1
  refine ⟨fun y hy => h.sub y (hp.mem_iff.2 (List.mem_cons_of_mem _ hy)), hn.2, by rw [List.length_set]; exact h.len, fun j l2 hj => ?_⟩
  by_cases e : k = j
  · subst e
    rw [hk] at hj; cases hj
    rw [List.getElem?_set_self (by rw [h.len]; exact hlt), if_neg hn.1]
  · rw [List.getElem?_set_ne e, h.val j l2 hj]
    have : ((j : Int) ∈ rem.map (·.1)) ↔ ((j : Int) ∈ rem'.map (·.1)) := by
      rw [(hp.map _).mem_iff, List.map_cons, List.mem_cons]
      constructor
      · rintro (h | h)
        · simp only at h; omega
        · exact h
      · exact .inr
    by_cases hm : (j : Int) ∈ rem'.map (·.1)
    · rw [if_pos hm, if_pos (this.2 hm)]
    · rw [if_neg hm, if_neg (fun h => hm (this.1 h))]
theorem FlI.done {xs : List Ent3} {S : List (List Sec)} {dl : List Sec} (h : FlI xs S [] dl) : dl = S.map lst := by
  apply List.ext_getElem? 
  intro i
  rw [List.getElem?_map]
  cases hk : S[i]? with
  | none => rw [List.getElem?_eq_none_iff] at hk; rw [Option.map_none, List.getElem?_eq_none_iff, h.len]; exact hk
  | some l => rw [h.val i l hk]; simp
theorem ent_at {xs : List Ent3} {S : List (List Sec)} {y : Int × Value} (hx : Pnd xs S) (h : y ∈ xs.map ent) : ∃ (i kn : Nat) (a : Option Addr) (m c : Nat) (l : List Sec), xs[i]? = some ((kn : Int), (a, m, c), l.tail) ∧ y = ((kn : Int), .slice a m c) ∧ S[kn]? = some l ∧ l.tail ≠ [] := by
  obtain ⟨⟨q, ⟨a, m, c⟩, tl⟩, hm, rfl⟩ := List.mem_map.1 h
  obtain ⟨h0, l, h1, h2, h3⟩ := hx.1 _ hm
  simp only at h0 h1 h2 h3
  obtain ⟨i, hi⟩ := List.getElem?_of_mem hm
  obtain ⟨kn, rfl⟩ := Int.eq_ofNat_of_zero_le h0
  subst h2
  exact ⟨i, kn, a, m, c, l, hi, rfl, h1, h3⟩
structure ClI (xs : List Ent3) (rem : List (Int × Value)) (ys : List Ent3) : Prop where
  sub : ∀ y ∈ rem, y ∈ xs.map ent
  nodup : (rem.map (·.1)).Nodup
  from_ : ∀ y ∈ ys, ∃ x ∈ xs, x.1 = y.1 ∧ x.2.2 = y.2.2
  all : ∀ x ∈ xs, x.1 ∈ rem.map (·.1) ∨ ∃ y ∈ ys, y.1 = x.1
  fresh : ∀ y ∈ ys, y.1 ∉ rem.map (·.1)
  keys : (ys.map (·.1)).Nodup
theorem ClI.start {xs : List Ent3} {S : List (List Sec)} (h : Pnd xs S) : ClI xs (xs.map ent) [] :=
  ⟨fun _ h => h, by rw [ent_keys]; exact h.2.2, fun y hy => absurd hy List.not_mem_nil, fun x hx => .inl (by rw [ent_keys]; exact List.mem_map_of_mem (f := fun (q : Ent3) => q.1) hx), fun y hy => absurd hy List.not_mem_nil, List.nodup_nil⟩
theorem ClI.step {xs : List Ent3} {rem rem' : List (Int × Value)} {ys : List Ent3} {i : Nat} {q : Int} {t t' : Tri} {tl : List Sec} (h : ClI xs rem ys) (hp : rem.Perm ((q, tv t) :: rem')) (hi : xs[i]? = some (q, t, tl)) : ClI xs rem' ((q, t', tl) :: ys) ∧ mput (ys.map ent) q (tv t') = ((q, t', tl) :: ys).map ent := by
  have hn : ((q, tv t) :: rem').map (·.1) |>.Nodup := (hp.map _).nodup_iff.1 h.nodup
  rw [List.map_cons, List.nodup_cons] at hn
  have hq : q ∈ rem.map (·.1) := (hp.map _).mem_iff.2 (List.mem_cons_self ..)
  have hno : ∀ y ∈ ys, y.1 ≠ q := fun y hy e => h.fresh y hy (e ▸ hq)
  refine ⟨⟨fun y hy => h.sub y (hp.mem_iff.2 (List.mem_cons_of_mem _ hy)), hn.2, fun y hy => ?_, fun x hx => ?_, fun y hy => ?_, ?_⟩, ?_⟩
  · rcases List.mem_cons.1 hy with rfl | hy
    · exact ⟨_, mem_of hi, rfl, rfl⟩
    · exact h.from_ y hy
  · rcases h.all x hx with h1 | ⟨y, hy, e⟩
    · rw [(hp.map _).mem_iff, List.map_cons, List.mem_cons] at h1
      rcases h1 with h1 | h1
      · exact .inr ⟨_, List.mem_cons_self .., h1.symm⟩
      · exact .inl h1
    · exact .inr ⟨y, List.mem_cons_of_mem _ hy, e⟩
  · rcases List.mem_cons.1 hy with rfl | hy
    · exact hn.1
    · exact fun hm => h.fresh y hy ((hp.map _).mem_iff.2 (List.mem_cons_of_mem _ hm))
  · rw [List.map_cons, List.nodup_cons]
    refine ⟨fun hm => ?_, h.keys⟩
    obtain ⟨y, hy, e⟩ := List.mem_map.1 hm
    exact hno y hy e
  · rw [mput, mdel_ent, filter_absent hno]; rfl
theorem ClI.done {xs ys : List Ent3} {S : List (List Sec)} (h : ClI xs [] ys) (hx : Pnd xs S) : Pnd ys S := by
  refine ⟨fun y hy => ?_, fun k l hk ht => ?_, h.keys⟩
  · obtain ⟨x, hm, e1, e2⟩ := h.from_ y hy
    rw [← e1, ← e2]; exact hx.1 x hm
  · obtain ⟨x, hm, e⟩ := hx.2.1 k l hk ht
    rcases h.all x hm with h1 | ⟨y, hy, e2⟩
    · simp at h1
    · exact ⟨y, hy, e2.trans e⟩
theorem limit_code {n most : Int} (h : 0 ≤ most) : (if most < (if n < 0 then 0 else n) then most else (if n < 0 then 0 else n)) = limit n most := by
  unfold limit; split <;> split <;> (try split) <;> omega
theorem Pnd.isSome {xs : List Ent3} {S : List (List Sec)} (h : Pnd xs S) (q : Int) : (mget (xs.map ent) q).isSome = decide (0 ≤ q ∧ q < S.length ∧ 1 < (S.getD q.toNat []).length) := by
  by_cases hc : 0 ≤ q ∧ q < S.length ∧ 1 < (S.getD q.toNat []).length
  · obtain ⟨h0, h1, h2⟩ := hc
    obtain ⟨k, rfl⟩ := Int.eq_ofNat_of_zero_le h0
    have hlt : k < S.length := by omega
    have hk : S[k]? = some S[k] := List.getElem?_eq_getElem hlt
    have e : S.getD (k : Int).toNat [] = S[k] := by simp [hlt]
    rw [e] at h2
    rcases h.look hk with ⟨ht, _⟩ | ⟨_, i, a, m, c, _, hg⟩
    · exact absurd ht (tail_ne.2 h2)
    · rw [hg]; simp [h1, hlt, h2]
  · rw [decide_eq_false hc, mget_ent_none (fun x hx e => hc ?_)]; rfl
    obtain ⟨h0, l, h1, h2, h3⟩ := h.1 x hx
    rw [e] at h0 h1
    have hlt := (List.getElem?_eq_some_iff.1 h1).1
    refine ⟨h0, by omega, ?_⟩
    rw [List.getD_eq_getElem?_getD, h1]
    rw [← h2] at h3
    exact tail_ne.1 h3
def Dk.stepped (D : Dk) (ts : List Torn) : Dk := { D with S := ts.foldl rstep D.S }
theorem Dk.ok.stepped {D : Dk} {m : Nat} (h : D.ok m) (hm : 1 ≤ m) (ts : List Torn) : (D.stepped ts).ok m := ⟨by simpa [Dk.stepped, foldl_len] using h.len, h.fuse, foldl_all hm ts h.all⟩
def Dk.lost (D : Dk) (t : Torn) : Dk := { D with S := D.S.set t.s.toNat [surv (D.at t.s) t.w t.b] }
theorem stepped_snoc {D : Dk} {ts : List Torn} {t : Torn} : D.stepped (ts ++ [t]) = { D with S := rstep (D.stepped ts).S t } := by simp [Dk.stepped]
theorem Dk.add_len (D : Dk) (k : Int) (s : Sec) : (D.add k s).S.length = D.S.length := by simp [Dk.add]
theorem set_hd {S : List (List Sec)} {k : Nat} {l l' : List Sec} (hk : S[k]? = some l) (h : hd l' = hd l) : (S.set k l').map hd = S.map hd := by
  rw [List.map_set, h]
  apply List.ext_getElem?
  intro i
  rw [List.getElem?_set]
  split
  · rename_i e; subst e
    rw [List.getElem?_map, hk]
    have := (List.getElem?_eq_some_iff.1 hk).1
    simp [this]
  · rfl
end Go.Dsk

namespace Go.Dsk
open Go.Wk
/-- The first that names sector k. -/
def firstOf (ts : List Torn) (k : Nat) : Option Torn := ts.find? (fun t => t.s = (k : Int))
/-- What a restart leaves of sector k. -/
def left (l : List Sec) (t : Option Torn) : Sec := match t with | some t => if 1 < l.length then surv l t.w t.b else hd l | none => hd l
theorem rstep_get (S : List (List Sec)) (t : Torn) (k : Nat) : (rstep S t)[k]? = (S[k]?).map fun l => if t.s = (k : Int) ∧ 1 < l.length then [surv l t.w t.b] else l := by
  unfold rstep
  split
  · rename_i h
    obtain ⟨h0, h1, h2⟩ := h
    obtain ⟨q, hq⟩ := Int.eq_ofNat_of_zero_le h0
    have hql : q < S.length := by omega
    have e : t.s.toNat = q := by rw [hq]; rfl
    rw [e] at h2 ⊢
    by_cases hk : q = k
    · subst hk
      rw [List.getElem?_set_self hql, List.getElem?_eq_getElem hql]
      have e2 : S.getD q [] = S[q] := by simp [hql]
      rw [e2] at h2 ⊢
      simp [hq, h2]
    · rw [List.getElem?_set_ne hk]
      cases S[k]? with
      | none => rfl
      | some l =>
        have : ¬ (t.s = (k : Int) ∧ 1 < l.length) := fun h => by omega
        simp [this]
  · rename_i h
    cases hk : S[k]? with
    | none => rfl
    | some l =>
      have hlt := (List.getElem?_eq_some_iff.1 hk).1
      have : ¬ (t.s = (k : Int) ∧ 1 < l.length) := fun hc => h (by
        refine ⟨by omega, by omega, ?_⟩
        rw [hc.1, Int.toNat_natCast, List.getD_eq_getElem?_getD, hk]; exact hc.2)
      simp [this]
theorem foldl_short (ts : List Torn) : ∀ (S : List (List Sec)) (k : Nat) (l : List Sec), S[k]? = some l → ¬ 1 < l.length → (ts.foldl rstep S)[k]? = some l := by
  induction ts with
  | nil => exact fun S k l h _ => h
  | cons t ts ih =>
    intro S k l h hl
    rw [List.foldl_cons]
    refine ih _ k l ?_ hl
    rw [rstep_get, h]; simp [hl]
theorem foldl_get (ts : List Torn) : ∀ (S : List (List Sec)) (k : Nat) (l : List Sec), S[k]? = some l → ((ts.foldl rstep S)[k]?).map hd = some (left l (firstOf ts k)) := by
  induction ts with
  | nil => intro S k l h; simp [firstOf, left, h]
  | cons t ts ih =>
    intro S k l h
    rw [List.foldl_cons]
    by_cases hc : t.s = (k : Int) ∧ 1 < l.length
    · have h2 : (rstep S t)[k]? = some [surv l t.w t.b] := by rw [rstep_get, h]; simp [hc]
      rw [foldl_short ts _ k _ h2 (by simp)]
      simp [firstOf, left, hc, hd]
    · have h2 : (rstep S t)[k]? = some l := by rw [rstep_get, h]; simp [hc]
      rw [ih _ k l h2]
      by_cases hs : t.s = (k : Int)
      · have hl : ¬ 1 < l.length := fun hl => hc ⟨hs, hl⟩
        congr 1
        have e : ∀ o : Option Torn, left l o = hd l := fun o => by cases o <;> simp [left, hl]
        rw [e, e]
      · simp [firstOf, hs]
theorem restart_get {D : Dk} {ts : List Torn} {k : Nat} {l : List Sec} (h : D.S[k]? = some l) : (D.restart ts).S[k]? = some [left l (firstOf ts k)] := by
  have := foldl_get ts D.S k l h
  rw [← List.getElem?_map] at this
  simp only [Dk.restart, List.getElem?_map] at this ⊢
  cases hx : (ts.foldl rstep D.S)[k]? with
  | none => rw [hx] at this; cases this
  | some x => rw [hx] at this; simpa using this
theorem restart_len (D : Dk) (ts : List Torn) : (D.restart ts).S.length = D.S.length := by simp [Dk.restart, foldl_len]
/-- A list that is the restart's, sector by sector. -/
theorem restart_eq {D : Dk} {ts : List Torn} {S : List (List Sec)} (hl : S.length = D.S.length) (h : ∀ (k : Nat) (l : List Sec), D.S[k]? = some l → S[k]? = some [left l (firstOf ts k)]) : S = (D.restart ts).S := by
  apply List.ext_getElem?
  intro i
  cases hk : D.S[i]? with
  | none =>
    have h1 : D.S.length ≤ i := List.getElem?_eq_none_iff.1 hk
    rw [List.getElem?_eq_none (by omega), List.getElem?_eq_none (by rw [restart_len]; omega)]
  | some l => rw [h i l hk, restart_get hk]
/- what a loop over the sectors has done -/
def upTo (g : Nat → List Sec → List Sec) (i : Nat) (S : List (List Sec)) : List (List Sec) := S.mapIdx fun k l => if k < i then g k l else l
theorem upTo_zero (g : Nat → List Sec → List Sec) (S : List (List Sec)) : upTo g 0 S = S := by
  apply List.ext_getElem?; intro i; rw [upTo, List.getElem?_mapIdx]; simp
theorem upTo_get {g : Nat → List Sec → List Sec} {i k : Nat} {S : List (List Sec)} {l : List Sec} (h : S[k]? = some l) : (upTo g i S)[k]? = some (if k < i then g k l else l) := by rw [upTo, List.getElem?_mapIdx, h]; rfl
theorem upTo_len (g : Nat → List Sec → List Sec) (i : Nat) (S : List (List Sec)) : (upTo g i S).length = S.length := by simp [upTo]
theorem upTo_step {g : Nat → List Sec → List Sec} {i : Nat} {S : List (List Sec)} {l : List Sec} (h : S[i]? = some l) : upTo g (i + 1) S = (upTo g i S).set i (g i l) := by
  apply List.ext_getElem?
  intro k
  have hlt := (List.getElem?_eq_some_iff.1 h).1
  rw [List.getElem?_set, upTo_len]
  by_cases e : i = k
  · subst e
    rw [if_pos rfl, if_pos hlt, upTo_get h]; simp
  · rw [if_neg e]
    cases hk : S[k]? with
    | none => rw [List.getElem?_eq_none (by rw [upTo_len]; exact List.getElem?_eq_none_iff.1 hk), List.getElem?_eq_none (by rw [upTo_len]; exact List.getElem?_eq_none_iff.1 hk)]
    | some l' =>
      rw [upTo_get hk, upTo_get hk]
      by_cases h1 : k < i
      · rw [if_pos h1, if_pos (by omega)]
      · rw [if_neg h1, if_neg (by omega)]
theorem upTo_same {g : Nat → List Sec → List Sec} {i : Nat} {S : List (List Sec)} {l : List Sec} (h : S[i]? = some l) (hg : g i l = l) : upTo g (i + 1) S = upTo g i S := by
  rw [upTo_step h, hg]
  apply List.ext_getElem?
  intro k
  rw [List.getElem?_set, upTo_len]
  split
  · rename_i e; subst e
    rw [if_pos (List.getElem?_eq_some_iff.1 h).1, upTo_get h]; simp
  · rfl
theorem upTo_all {g : Nat → List Sec → List Sec} {i : Nat} {S : List (List Sec)} (h : S.length ≤ i) : upTo g i S = S.mapIdx g := by
  apply List.ext_getElem?
  intro k
  rw [upTo, List.getElem?_mapIdx, List.getElem?_mapIdx]
  cases hk : S[k]? with
  | none => rfl
  | some l =>
    have := (List.getElem?_eq_some_iff.1 hk).1
    simp [show k < i from by omega]
theorem mapIdx_map (g : List Sec → List Sec) (S : List (List Sec)) : S.mapIdx (fun _ l => g l) = S.map g := by
  apply List.ext_getElem?
  intro k
  rw [List.getElem?_mapIdx, List.getElem?_map]
theorem restart_mapIdx (D : Dk) (ts : List Torn) : D.S.mapIdx (fun k l => [left l (firstOf ts k)]) = (D.restart ts).S :=
  restart_eq (by simp) fun k l h => by rw [List.getElem?_mapIdx, h]; rfl
theorem lst_get {l : List Sec} (h : l ≠ []) : l[l.length - 1]? = some (lst l) := by
  rw [← List.getLast?_eq_getElem?, lst, List.getLastD_eq_getLast?, List.getLast?_eq_some_getLast h]; rfl
theorem nth_get {l : List Sec} {i : Nat} (h : i < l.length) : l[i]? = some (nth l i) := by simp [nth, h]
theorem mix_step {s t : List UInt8} {i : Nat} (hs : i < s.length) (ht : i < t.length) : s.take (i + 1) ++ t.drop (i + 1) = (s.take i ++ t.drop i).set i s[i] := by
  have h1 : s.take (i + 1) = s.take i ++ [s[i]] := by rw [List.take_add_one, List.getElem?_eq_getElem hs]; rfl
  have hl : (s.take i).length = i := by rw [List.length_take]; omega
  rw [h1, List.drop_eq_getElem_cons ht]
  apply List.ext_getElem?
  intro k
  rw [List.getElem?_set]
  by_cases e : i = k
  · subst e
    rw [if_pos rfl, if_pos (by simp [hl]; omega)]
    rw [List.append_assoc, List.getElem?_append_right (by omega), hl]; simp
  · rw [if_neg e]
    by_cases h : k < i
    · rw [List.append_assoc, List.getElem?_append_left (by omega), List.getElem?_append_left (by omega)]
    · have : k - i = (k - i - 1) + 1 := by omega
      simp only [List.append_assoc, List.getElem?_append, hl, if_neg h]
      rw [this]
      simp
      congr 1; omega
/- looking for the first that names a sector -/
def SP (ts : List Torn) (i : Nat) (l : List Sec) (x : Int) : Prop := (x = -1 ∧ left l (firstOf ts i) = hd l) ∨ ∃ (q : Nat) (t : Torn), q < ts.length ∧ x = (q : Int) ∧ ts[q]? = some t ∧ firstOf ts i = some t ∧ 1 < l.length
def SJ (ts : List Torn) (i : Nat) (l : List Sec) (j : Nat) (x : Int) : Prop := (x = -1 ∧ ∀ t ∈ ts.take j, t.s ≠ (i : Int)) ∨ ∃ (q : Nat) (t : Torn), q < ts.length ∧ x = (q : Int) ∧ ts[q]? = some t ∧ firstOf ts i = some t ∧ 1 < l.length
theorem left_short {l : List Sec} (h : ¬ 1 < l.length) (o : Option Torn) : left l o = hd l := by cases o <;> simp [left, h]
theorem SJ.start (ts : List Torn) (i : Nat) (l : List Sec) : SJ ts i l 0 (-1) := .inl ⟨rfl, by simp⟩
theorem SJ.exit {ts : List Torn} {i : Nat} {l : List Sec} {j : Nat} {x : Int} (h : SJ ts i l j x) (he : ts.length ≤ j ∨ 0 ≤ x ∨ ¬ 1 < l.length) : SP ts i l x := by
  rcases h with ⟨hx, hno⟩ | h
  · refine .inl ⟨hx, ?_⟩
    rcases he with he | he | he
    · rw [List.take_of_length_le he] at hno
      have : firstOf ts i = none := List.find?_eq_none.2 fun t ht => by simpa using hno t ht
      rw [this]; rfl
    · omega
    · exact left_short he _
  · exact .inr h
theorem SJ.found {ts : List Torn} {i : Nat} {l : List Sec} {j : Nat} {x : Int} (h : SJ ts i l j x) (hx : x < 0) (hj : j < ts.length) (hs : ts[j].s = (i : Int)) (hl : 1 < l.length) : SJ ts i l (j + 1) j := by
  rcases h with ⟨_, hno⟩ | ⟨q, _, _, h, _⟩
  · refine .inr ⟨j, ts[j], hj, rfl, List.getElem?_eq_getElem hj, ?_, hl⟩
    have e : ts = ts.take j ++ ts[j] :: ts.drop (j + 1) := by rw [← List.drop_eq_getElem_cons hj, List.take_append_drop]
    unfold firstOf
    conv => lhs; rw [e]
    rw [List.find?_append, List.find?_eq_none.2 (fun t ht => by simpa using hno t ht), Option.none_or, List.find?_cons_of_pos (by simpa using hs)]
  · omega
theorem SJ.skip {ts : List Torn} {i : Nat} {l : List Sec} {j : Nat} {x : Int} (h : SJ ts i l j x) (hx : x < 0) (hj : j < ts.length) (hs : ¬ ts[j].s = (i : Int)) : SJ ts i l (j + 1) x := by
  rcases h with ⟨hx, hno⟩ | ⟨q, _, _, h, _⟩
  · refine .inl ⟨hx, fun t ht => ?_⟩
    rw [List.take_add_one, List.getElem?_eq_getElem hj, List.mem_append] at ht
    rcases ht with ht | ht
    · exact hno t ht
    · simp at ht; subst ht; exact hs
  · omega
theorem take_one {l : List Sec} (h : l ≠ []) : l.take 1 = [hd l] := by
  cases l with
  | nil => exact absurd rfl h
  | cons x l => rfl
/- THE OPERATIONS OF THE STATEMENTS -/
structure OpD where
  kind : Int
  k : Int
  n : Int
  b : List UInt8
  l : List Torn
def OpD.ok (o : OpD) : Prop := inInt o.kind ∧ inInt o.k ∧ inInt o.n
@[reducible] def OpD.cells (o : OpD) (x y : Tri) : List Value := [vI o.kind, vI o.k, vI o.n, tv x, tv y]
def ROp : Rep OpD where
  sz := 5
  rep z cs o := ∃ x y : Tri, cs = o.cells x y ∧ o.ok ∧ SlP R8 x.1 x.2.1 x.2.2 o.b z ∧ SlP RTorn y.1 y.2.1 y.2.2 o.l z
  mono h := fun ⟨x, y, e, k, s, t⟩ => ⟨x, y, e, k, s.mono h, t.mono h⟩
  len := fun ⟨_, _, e, _⟩ => by rw [e]; rfl
  one := fun ⟨_, _, e, _⟩ u hu => by rw [e] at hu; simp at hu; rcases hu with rfl | rfl | rfl | rfl | rfl <;> rfl
section
variable {P : Program} {f : FuncId} {n : Nat} {κ : World} {K : Post} {k : List Item} {al : List (Nat × Value)} {L : List Assn} {a : Option Addr} {m c : Nat} {l : List OpD}
theorem SG.elemOp {j : Nat} {y : OpD} (hm : Sl ROp a m c l ∈ L) (hy : l[j]? = some y)
    (h : ∀ (ab : Option Addr) (mb cb : Nat) (al' : Option Addr) (ml cl : Nat), y.ok → SG P f n κ K k al (Sl R8 ab mb cb y.b :: Sl RTorn al' ml cl y.l :: At a (j * 5) [vI y.kind, vI y.k, vI y.n, .slice ab mb cb, .slice al' ml cl] :: L)) : SG P f n κ K k al L :=
  SG.elemR (ι := Tri × Tri) (p := fun _ => y.ok) (us := fun x => y.cells x.1 x.2) (R := fun x => [SlP R8 x.1.1 x.1.2.1 x.1.2.2 y.b, SlP RTorn x.2.1 x.2.2.1 x.2.2.2 y.l]) hm hy
    (fun z cs ⟨x, x', e, hok, s, t⟩ => ⟨(x, x'), hok, e, fun r hr => by simp at hr; rcases hr with rfl | rfl <;> assumption⟩) fun x hok => h _ _ _ _ _ _ hok
end
/- THE EXAMPLES -/
def by64 (c : UInt8) : Sec := List.replicate 64 c
def lv0 : Dk := fresh 2
def lv1 : Dk := lv0.write 1 (by64 7)
def lv2 : Dk := lv1.flush
def lv3 : Dk := lv2.write 1 (by64 8)
def lv4 : Dk := lv3.write 1 (by64 9)
def lv5 : Dk := lv4.restart [⟨1, 1, 10⟩]
def lw1 : Dk := lv4.restart []
def lw2 : Dk := lw1.blow 1
def lw3 : Dk := lw2.write 0 (by64 1)
def lw4 : Dk := lw3.write 0 (by64 2)
theorem lv0_def : fresh 2 = lv0 := rfl
theorem lv1_def : lv0.write 1 (by64 7) = lv1 := rfl
theorem lv2_def : lv1.flush = lv2 := rfl
theorem lv3_def : lv2.write 1 (by64 8) = lv3 := rfl
theorem lv4_def : lv3.write 1 (by64 9) = lv4 := rfl
theorem lv5_def : lv4.restart [⟨1, 1, 10⟩] = lv5 := rfl
theorem lw1_def : lv4.restart [] = lw1 := rfl
theorem lw2_def : lw1.blow 1 = lw2 := rfl
theorem lw3_def : lw2.write 0 (by64 1) = lw3 := rfl
theorem lw4_def : lw3.write 0 (by64 2) = lw4 := rfl
theorem lv0_ok : lv0.ok 1 := fresh_ok (by decide) (by decide)
theorem lv1_ok : lv1.ok 2 := lv0_ok.write _ _
theorem lv2_ok : lv2.ok 2 := lv1_ok.flush (by decide)
theorem lv3_ok : lv3.ok 3 := lv2_ok.write _ _
theorem lv4_ok : lv4.ok 4 := lv3_ok.write _ _
theorem lv5_ok : lv5.ok 1 := lv4_ok.restart (by decide) _
theorem lw1_ok : lw1.ok 1 := lv4_ok.restart (by decide) _
theorem lw2_ok : lw2.ok 1 := lw1_ok.blow (by decide)
theorem lw3_ok : lw3.ok 2 := lw2_ok.write _ _
theorem lw4_ok : lw4.ok 3 := lw3_ok.write _ _
theorem lv4_read : lv4.read 1 = (by64 9, 0) := by decide +kernel
theorem lv5_read : lv5.read 1 = (List.replicate 10 9 ++ List.replicate 54 8, 0) := by decide +kernel
theorem lw1_read : lw1.read 1 = (by64 7, 0) := by decide +kernel
theorem lw4_read : lw4.read 0 = ([], 10) := by decide +kernel
end Go.Dsk

namespace Go.Dsk
open Go.Wk
structure Dk.calm (D : Dk) : Prop where
  off : D.off = false
  fuse : D.fuse = 0
theorem Dk.calm.spend {D : Dk} (h : D.calm) : D.spend = D := by unfold Dk.spend; rw [if_neg (by rw [h.fuse]; omega)]
theorem Dk.calm.flush {D : Dk} (h : D.calm) : D.flush = D.flushed := by
  unfold Dk.flush; rw [if_neg (by rw [h.off]; simp)]
  exact Dk.calm.spend ⟨h.off, h.fuse⟩
theorem Dk.calm.flushE {D : Dk} (h : D.calm) : D.flushE = 0 := by unfold Dk.flushE; rw [if_neg (by rw [h.off]; simp)]
theorem Dk.calm.errOf {D : Dk} (h : D.calm) {k : Int} (h0 : 0 ≤ k) (h1 : k < D.S.length) : D.errOf k = 0 := Dk.errOf_zero.2 ⟨h0, h1, h.off⟩
theorem Dk.calm.write {D : Dk} (h : D.calm) {k : Int} (h0 : 0 ≤ k) (h1 : k < D.S.length) {s : Sec} (hs : s.length = 64) : D.write k s = D.add k s := by
  unfold Dk.write; rw [if_pos ⟨hs, h.errOf h0 h1⟩]
  exact Dk.calm.spend ⟨h.off, h.fuse⟩
theorem Dk.calm.writeE {D : Dk} (h : D.calm) {k : Int} (h0 : 0 ≤ k) (h1 : k < D.S.length) {s : Sec} (hs : s.length = 64) : D.writeE k s = 0 := by unfold Dk.writeE; rw [if_pos hs, h.errOf h0 h1]
theorem fresh_calm (n : Nat) : (fresh n).calm := ⟨rfl, rfl⟩
theorem Dk.calm.restart (D : Dk) (ts : List Torn) : (D.restart ts).calm := ⟨rfl, rfl⟩
theorem Dk.calm.flushed {D : Dk} (h : D.calm) : D.flushed.calm := ⟨h.off, h.fuse⟩
theorem Dk.calm.add {D : Dk} (h : D.calm) (k : Int) (s : Sec) : (D.add k s).calm := ⟨h.off, h.fuse⟩
theorem flushed_len (D : Dk) : D.flushed.S.length = D.S.length := by simp [Dk.flushed]
theorem read_congr {D E : Dk} (hS : D.S = E.S) (ho : D.off = E.off) (k : Int) : D.read k = E.read k := by
  unfold Dk.read Dk.errOf Dk.at; rw [hS, ho]
theorem Dk.calm.read {D : Dk} (h : D.calm) {k : Nat} {l : List Sec} (hk : D.S[k]? = some l) : D.read k = (lst l, 0) := by
  have hlt := (List.getElem?_eq_some_iff.1 hk).1
  unfold Dk.read
  rw [if_pos (h.errOf (by omega) (by omega))]
  have : D.at (k : Int) = l := by unfold Dk.at; rw [Int.toNat_natCast, List.getD_eq_getElem?_getD, hk]; rfl
  rw [this]
/- fuses -/
structure Fz (mst i : Nat) (D : Dk) : Prop where
  on : i < mst → D.off = false ∧ D.fuse = (mst : Int) - i
  out : mst ≤ i → D.off = true
theorem Fz.start {D : Dk} (h : D.calm) (mst : Nat) : Fz mst 0 (D.blow mst) := by
  have e : D.blow mst = { D with fuse := if (mst : Int) < 0 then 0 else mst, off := decide ((mst : Int) = 0) } := if_neg (by rw [h.off]; simp)
  rw [e, if_neg (by omega)]
  exact ⟨fun hm => ⟨by simp; omega, by simp⟩, fun hm => by simp; omega⟩
theorem Fz.spend {mst i : Nat} {D : Dk} (h : Fz mst i D) (hi : i < mst) : Fz mst (i + 1) D.spend := by
  obtain ⟨h1, h2⟩ := h.on hi
  have e : D.spend = { D with fuse := D.fuse - 1, off := decide (D.fuse - 1 = 0) } := if_pos (by omega)
  rw [e]
  exact ⟨fun hm => ⟨by simp; omega, by simp; omega⟩, fun hm => by simp; omega⟩
theorem Fz.flush {mst i : Nat} {D : Dk} (h : Fz mst i D) : D.flushE = (if i < mst then 0 else 10) ∧ Fz mst (i + 1) D.flush := by
  by_cases hi : i < mst
  · obtain ⟨h1, h2⟩ := h.on hi
    have e : D.flush = D.flushed.spend := if_neg (by rw [h1]; simp)
    have h3 : Fz mst i D.flushed := ⟨fun _ => ⟨h1, h2⟩, fun hm => by omega⟩
    rw [if_pos hi, e]
    exact ⟨if_neg (by rw [h1]; simp), h3.spend hi⟩
  · have h1 := h.out (by omega)
    have e : D.flush = D := if_pos h1
    rw [if_neg hi, e]
    exact ⟨if_pos h1, fun hm => by omega, fun _ => h1⟩
theorem Fz.write {mst i : Nat} {D : Dk} (h : Fz mst i D) {k : Int} (h0 : 0 ≤ k) (hk : k < D.S.length) {s : Sec} (hs : s.length = 64) : D.writeE k s = (if i < mst then 0 else 10) ∧ Fz mst (i + 1) (D.write k s) := by
  have hw : D.writeE k s = D.errOf k := if_pos hs
  by_cases hi : i < mst
  · obtain ⟨h1, h2⟩ := h.on hi
    have he : D.errOf k = 0 := Dk.errOf_zero.2 ⟨h0, hk, h1⟩
    have e : D.write k s = (D.add k s).spend := if_pos ⟨hs, he⟩
    have h3 : Fz mst i (D.add k s) := ⟨fun _ => ⟨h1, h2⟩, fun hm => by omega⟩
    rw [if_pos hi, e, hw]
    exact ⟨he, h3.spend hi⟩
  · have h1 := h.out (by omega)
    have he : D.errOf k = 10 := by unfold Dk.errOf; rw [if_neg (by omega), if_pos h1]
    have e : D.write k s = D := if_neg (by omega)
    rw [if_neg hi, e, hw]
    exact ⟨he, fun hm => by omega, fun _ => h1⟩
theorem write_len (D : Dk) (k : Int) (s : Sec) : (D.write k s).S.length = D.S.length := by unfold Dk.write; split; rw [Dk.spend_S, Dk.add_len]; rfl
theorem flush_len (D : Dk) : D.flush.S.length = D.S.length := by unfold Dk.flush; split; rfl; rw [Dk.spend_S, flushed_len]
theorem blow_S (D : Dk) (n : Int) : (D.blow n).S = D.S := by unfold Dk.blow; split <;> rfl
/- restarts -/
theorem left_one (x : Sec) (o : Option Torn) : left [x] o = x := by cases o <;> simp [left, hd]
theorem restart_same {D : Dk} {ts us : List Torn} (h : ∀ k, k < D.S.length → firstOf ts k = firstOf us k) : D.restart ts = D.restart us := by
  have : (D.restart ts).S = (D.restart us).S := restart_eq (restart_len D ts) fun k l hk => by
    rw [restart_get hk, h k (List.getElem?_eq_some_iff.1 hk).1]
  unfold Dk.restart at *
  simp only [Dk.mk.injEq, and_true] at this ⊢
  exact this
theorem restart_twice (D : Dk) (ts us : List Torn) : (D.restart ts).restart us = D.restart ts := by
  have : ((D.restart ts).restart us).S = (D.restart ts).S := by
    apply List.ext_getElem?
    intro i
    cases hk : D.S[i]? with
    | none =>
      have h1 : D.S.length ≤ i := List.getElem?_eq_none_iff.1 hk
      rw [List.getElem?_eq_none (by rw [restart_len, restart_len]; omega), List.getElem?_eq_none (by rw [restart_len]; omega)]
    | some l => rw [restart_get (restart_get hk), restart_get hk, left_one]
  unfold Dk.restart at *
  simp only [Dk.mk.injEq, and_true] at this ⊢
  exact this
def allT (n : Nat) : List Torn := (List.range n).map fun (k : Nat) => { s := (k : Int), w := 1000, b := 0 }
theorem allT_succ (n : Nat) : allT (n + 1) = allT n ++ [⟨(n : Int), 1000, 0⟩] := by simp [allT, List.range_succ]
theorem firstOf_all {n k : Nat} (h : k < n) : firstOf (allT n) k = some ⟨k, 1000, 0⟩ := by
  induction n with
  | zero => omega
  | succ n ih =>
    unfold firstOf at *
    rw [allT_succ, List.find?_append]
    by_cases hk : k < n
    · rw [ih hk]; rfl
    · have e : k = n := by omega
      subst e
      have : List.find? (fun t => decide (t.s = (k : Int))) (allT k) = none := by
        rw [List.find?_eq_none]
        intro t ht
        obtain ⟨j, hj, rfl⟩ := List.mem_map.1 ht
        simp at hj ⊢; omega
      rw [this]; simp
theorem surv_all {l : List Sec} (h1 : 1 < l.length) (h2 : l.length ≤ 1000) : surv l 1000 0 = lst l := by
  have e : limit 1000 ((l.length : Int) - 1) = (l.length : Int) - 1 := by unfold limit; rw [if_neg (by omega)]; split <;> omega
  unfold surv
  simp only [e]
  have e2 : ((l.length : Int) - 1).toNat = l.length - 1 := by omega
  rw [e2, if_neg (by omega)]
  have := lst_get (l := l) (by intro h; rw [h] at h1; simp at h1)
  rw [nth, List.getD_eq_getElem?_getD, this]; rfl
theorem lst_one {l : List Sec} (h : l ≠ []) (h1 : ¬ 1 < l.length) : lst l = hd l := lst_tail_nil (by
  have := List.length_pos_iff.2 h
  exact List.eq_nil_of_length_eq_zero (by rw [List.length_tail]; omega))
theorem restart_all {D : Dk} {m : Nat} (h : D.ok m) (hm : m ≤ 1000) (hc : D.calm) : D.restart (allT D.S.length) = D.flush := by
  have : (D.restart (allT D.S.length)).S = D.flushed.S := by
    symm
    refine restart_eq (flushed_len D) fun k l hk => ?_
    obtain ⟨g1, g2, _⟩ := h.all l (mem_of hk)
    rw [firstOf_all (List.getElem?_eq_some_iff.1 hk).1]
    simp only [Dk.flushed, List.getElem?_map, hk, Option.map_some]
    congr 2
    unfold left
    by_cases h1 : 1 < l.length
    · simp only [if_pos h1]; exact (surv_all h1 (by omega)).symm
    · simp only [if_neg h1]; exact lst_one g1 h1
  rw [hc.flush]
  unfold Dk.restart Dk.flushed at *
  simp only [Dk.mk.injEq] at this ⊢
  exact ⟨this, hc.off.symm, hc.fuse.symm⟩
theorem flush_restart {D : Dk} (hc : D.calm) (ts : List Torn) : D.flush.restart ts = D.flush := by
  rw [hc.flush]
  have : (D.flushed.restart ts).S = D.flushed.S := by
    symm
    refine restart_eq rfl fun k l hk => ?_
    rw [hk]
    simp only [Dk.flushed, List.getElem?_map] at hk
    cases h : D.S[k]? with
    | none => rw [h] at hk; cases hk
    | some l0 => rw [h] at hk; simp at hk; subst hk; rw [left_one]
  unfold Dk.restart at *
  simp only at this
  have e1 := hc.flushed.off
  have e2 := hc.flushed.fuse
  cases hF : D.flushed with
  | mk S off fuse => rw [hF] at this e1 e2; simp only [Dk.mk.injEq]; exact ⟨this, e1.symm, e2.symm⟩
/- the first of each sector -/
def dd (ts : List Torn) : List Torn := ts.foldl (fun acc t => if t.s ∈ acc.map (·.s) then acc else acc ++ [t]) []
theorem dd_snoc (ts : List Torn) (t : Torn) : dd (ts ++ [t]) = if t.s ∈ (dd ts).map (·.s) then dd ts else dd ts ++ [t] := by simp [dd]
theorem dd_length (ts : List Torn) : (dd ts).length ≤ ts.length := by
  have key : ∀ n, (dd (ts.take n)).length ≤ n := by
    intro n
    induction n with
    | zero => simp [dd]
    | succ n ih =>
      by_cases hn : n < ts.length
      · rw [List.take_add_one, List.getElem?_eq_getElem hn, Option.toList_some, dd_snoc]
        split
        · omega
        · rw [List.length_append]; simp only [List.length_cons, List.length_nil]; omega
      · rw [List.take_of_length_le (by omega), ← List.take_of_length_le (i := n) (l := ts) (by omega)]; omega
  have := key ts.length
  rwa [List.take_length] at this
theorem dd_first (ts : List Torn) : ∀ k, firstOf (dd ts) k = firstOf ts k := by
  have key : ∀ n, ∀ k, firstOf (dd (ts.take n)) k = firstOf (ts.take n) k := by
    intro n
    induction n with
    | zero => intro k; simp [dd]
    | succ n ih =>
      intro k
      by_cases hn : n < ts.length
      · rw [List.take_add_one, List.getElem?_eq_getElem hn, Option.toList_some, dd_snoc]
        generalize ts[n] = t
        have hi := ih k
        unfold firstOf at *
        rw [List.find?_append, ← hi]
        split
        · rename_i hm
          by_cases hs : t.s = (k : Int)
          · cases hf : List.find? (fun t => decide (t.s = (k : Int))) (dd (ts.take n)) with
            | some u => rfl
            | none =>
              rw [List.find?_eq_none] at hf
              obtain ⟨u, hu, e⟩ := List.mem_map.1 hm
              have := hf u hu
              simp at this
              omega
          · simp [hs]
        · rw [List.find?_append]
      · rw [List.take_of_length_le (by omega), ← List.take_of_length_le (i := n) (l := ts) (by omega)]; exact ih k
  intro k
  have := key ts.length k
  rwa [List.take_length] at this
theorem dd_nodup (ts : List Torn) : ((dd ts).map (·.s)).Nodup := by
  have key : ∀ n, ((dd (ts.take n)).map (·.s)).Nodup := by
    intro n
    induction n with
    | zero => simp [dd]
    | succ n ih =>
      by_cases hn : n < ts.length
      · rw [List.take_add_one, List.getElem?_eq_getElem hn, Option.toList_some, dd_snoc]
        split
        · exact ih
        · rename_i h
          rw [List.map_append, List.nodup_append]
          refine ⟨ih, by simp, fun a ha b hb => ?_⟩
          simp at hb; subst hb
          exact fun e => h (e ▸ ha)
      · rw [List.take_of_length_le (by omega), ← List.take_of_length_le (i := n) (l := ts) (by omega)]; exact ih
  have := key ts.length
  rwa [List.take_length] at this
theorem first_iff {ts : List Torn} (h : (ts.map (·.s)).Nodup) {k : Nat} {t : Torn} : firstOf ts k = some t ↔ t ∈ ts ∧ t.s = (k : Int) := by
  unfold firstOf
  induction ts with
  | nil => simp
  | cons u ts ih =>
    rw [List.map_cons, List.nodup_cons] at h
    by_cases hu : u.s = (k : Int)
    · rw [List.find?_cons_of_pos (by simpa using hu), List.mem_cons]
      constructor
      · rintro ⟨rfl⟩; exact ⟨.inl rfl, hu⟩
      · rintro ⟨rfl | ht, hs⟩
        · rfl
        · exact absurd (hu.trans hs.symm ▸ List.mem_map_of_mem (f := fun (q : Torn) => q.s) ht) h.1
    · rw [List.find?_cons_of_neg (by simpa using hu), ih h.2, List.mem_cons]
      constructor
      · rintro ⟨a, b⟩; exact ⟨.inr a, b⟩
      · rintro ⟨rfl | ht, hs⟩
        · exact absurd hs hu
        · exact ⟨ht, hs⟩
theorem back_first {ts : List Torn} {n k : Nat} (hk : k < n) : firstOf ((dd ts).reverse ++ [⟨-1, 9, 0⟩, ⟨(n : Int), 0, 9⟩]) k = firstOf ts k := by
  have h1 : firstOf ((dd ts).reverse) k = firstOf (dd ts) k := by
    have hn := dd_nodup ts
    have hr : (((dd ts).reverse).map (·.s)).Nodup := by rw [List.map_reverse]; exact (List.reverse_perm _).nodup_iff.2 hn
    cases hf : firstOf (dd ts) k with
    | some t => exact (first_iff hr).2 (by have := (first_iff hn).1 hf; simpa using this)
    | none =>
      cases hg : firstOf (dd ts).reverse k with
      | none => rfl
      | some t =>
        have := (first_iff hr).1 hg
        have h2 := (first_iff hn (t := t) (k := k)).2 (by simpa using this)
        rw [h2] at hf; cases hf
  rw [← dd_first ts k, ← h1]
  unfold firstOf
  rw [List.find?_append]
  cases List.find? (fun t => decide (t.s = (k : Int))) (dd ts).reverse with
  | some t => rfl
  | none =>
    have h3 : ¬ ((-1 : Int) = (k : Int)) := by omega
    have h4 : ¬ ((n : Int) = (k : Int)) := by omega
    simp [h4]
theorem own_first (ts : List Torn) (k : Nat) : firstOf (ts.filter fun t => t.s = (k : Int)) k = firstOf ts k := by
  unfold firstOf
  rw [List.find?_filter]
  congr 1
  funext t
  simp
theorem restart_at {D : Dk} {ts us : List Torn} {k : Nat} (h : firstOf ts k = firstOf us k) (hk : k < D.S.length) : (D.restart ts).read k = (D.restart us).read k ∧ ((D.restart ts).read k).2 = 0 := by
  have e := List.getElem?_eq_getElem hk
  rw [Dk.calm.read (Dk.calm.restart D ts) (restart_get e), Dk.calm.read (Dk.calm.restart D us) (restart_get e), h]
  exact ⟨rfl, rfl⟩
end Go.Dsk

namespace Go.Wl
open Go.Wk Go.Dsk

/- 1. NUMBERS -/
def leb : Nat → Nat → List UInt8
  | 0, _ => []
  | k + 1, n => UInt8.ofNat n :: leb k (n / 256)
def lev : List UInt8 → Nat
  | [] => 0
  | c :: l => c.toNat + 256 * lev l
theorem leb_len : ∀ k n, (leb k n).length = k
  | 0, _ => rfl
  | k + 1, n => by simp [leb, leb_len k]
theorem lev_leb : ∀ (k n : Nat), n < 256 ^ k → lev (leb k n) = n
  | 0, n, h => by simp at h; subst h; rfl
  | k + 1, n, h => by
    rw [leb, lev, lev_leb k (n / 256) (by rw [Nat.pow_succ] at h; omega)]
    rw [UInt8.toNat_ofNat']
    omega
theorem lev_lt : ∀ l : List UInt8, lev l < 256 ^ l.length
  | [] => by simp [lev]
  | c :: l => by
    have h := lev_lt l
    have hc := c.toNat_lt
    rw [lev, List.length_cons, Nat.pow_succ]; omega
theorem lev_snoc (l : List UInt8) (c : UInt8) : lev (l ++ [c]) = lev l + 256 ^ l.length * c.toNat := by
  induction l with
  | nil => simp [lev]
  | cons d l ih => rw [List.cons_append, lev, lev, ih, List.length_cons, Nat.pow_succ]; simp only [Nat.mul_add]; rw [Nat.mul_comm (256 ^ l.length) 256, Nat.mul_assoc]; omega
theorem lev_zero (k : Nat) : lev (List.replicate k 0) = 0 := by
  induction k with
  | zero => rfl
  | succ k ih => rw [List.replicate_succ, lev, ih]; rfl
theorem lev_inj : ∀ {a b : List UInt8}, a.length = b.length → lev a = lev b → a = b
  | [], [], _, _ => rfl
  | c :: a, d :: b, hl, h => by
    rw [lev, lev] at h
    have hc := c.toNat_lt; have hd := d.toNat_lt
    have e1 : c.toNat = d.toNat := by omega
    have e2 : lev a = lev b := by omega
    rw [UInt8.toNat_inj.1 e1, lev_inj (by simpa using hl) e2]
  | [], _ :: _, hl, _ => by simp at hl
  | _ :: _, [], hl, _ => by simp at hl

/- 2. SECTORS, MARKS -/
def sec (b : List UInt8) : Sec := (b ++ List.replicate 64 0).take 64
theorem sec_len (b : List UInt8) : (sec b).length = 64 := by rw [sec, List.length_take, List.length_append, List.length_replicate]; omega
def cp (t s : Nat) : List UInt8 := leb 8 t ++ leb 8 s
theorem cp_len (t s : Nat) : (cp t s).length = 16 := by simp [cp, leb_len]
def markB (t s : Nat) : List UInt8 := cp t s ++ cp t s
def markS (t s : Nat) : Sec := sec (markB t s)
def c1 (s : Sec) : List UInt8 := s.take 16
def c2 (s : Sec) : List UInt8 := (s.drop 16).take 16
def rd (b : List UInt8) : Nat × Nat := (lev (b.take 8), lev ((b.drop 8).take 8))
theorem rd_cp {t s : Nat} (ht : t < 2 ^ 64) (hs : s < 2 ^ 64) : rd (cp t s) = (t, s) := by
  have e1 : (cp t s).take 8 = leb 8 t := by rw [cp, List.take_append_of_le_length (by rw [leb_len]; omega), List.take_of_length_le (by rw [leb_len]; omega)]
  have e2 : ((cp t s).drop 8).take 8 = leb 8 s := by
    rw [cp, List.drop_append_of_le_length (by rw [leb_len]; omega), List.drop_of_length_le (by rw [leb_len]; omega), List.nil_append, List.take_of_length_le (by rw [leb_len]; omega)]
  rw [rd, e1, e2, lev_leb 8 t ht, lev_leb 8 s hs]
theorem rd_inj {a b : List UInt8} (ha : a.length = 16) (hb : b.length = 16) (h : rd a = rd b) : a = b := by
  unfold rd at h
  obtain ⟨h1, h2⟩ := Prod.mk.inj h
  have e1 := lev_inj (by simp [ha, hb]) h1
  have e2 := lev_inj (by simp [ha, hb]) h2
  rw [List.take_of_length_le (by simp; omega), List.take_of_length_le (l := b.drop 8) (by simp; omega)] at e2
  rw [← List.take_append_drop 8 a, ← List.take_append_drop 8 b, e1, e2]
theorem markS_eq (t s : Nat) : markS t s = cp t s ++ (cp t s ++ List.replicate 32 0) := by
  have e : markB t s ++ List.replicate 64 0 = (cp t s ++ (cp t s ++ List.replicate 32 0)) ++ List.replicate 32 (0 : UInt8) := by
    rw [show (64 : Nat) = 32 + 32 from rfl, ← List.replicate_append_replicate]; simp [markB]
  rw [markS, sec, e, List.take_append_of_le_length (by simp [cp_len]), List.take_of_length_le (by simp [cp_len])]
theorem c1_mark (t s : Nat) : c1 (markS t s) = cp t s := by
  rw [c1, markS_eq, List.take_append_of_le_length (by rw [cp_len]; omega), List.take_of_length_le (by rw [cp_len]; omega)]
theorem c2_mark (t s : Nat) : c2 (markS t s) = cp t s := by
  rw [c2, markS_eq, List.drop_append_of_le_length (by rw [cp_len]; omega), List.drop_of_length_le (by rw [cp_len]; omega), List.nil_append, List.take_append_of_le_length (by rw [cp_len]; omega), List.take_of_length_le (by rw [cp_len]; omega)]
/-- The mark of a sector; turn 0: none. -/
def mk (s : Sec) : Nat × Nat := if rd (c1 s) = rd (c2 s) then rd (c1 s) else (0, 0)
def better (x : Nat × Nat) (s : Sec) : Nat × Nat := if rd (c1 s) = rd (c2 s) ∧ x.1 < (rd (c1 s)).1 then rd (c1 s) else x
def zsec : Sec := List.replicate 64 0
theorem sec_nil : sec [] = zsec := by simp [sec, zsec]
theorem zsec_mark : c1 zsec = cp 0 0 ∧ c2 zsec = cp 0 0 := by decide
/-- A sector that holds no mark, or an old one. -/
def Weak (T : Nat) (o : Sec) : Prop := o.length = 64 ∧ c1 o = c2 o ∧ (rd (c1 o)).1 < T
theorem weak_zero {T : Nat} (h : 0 < T) : Weak T zsec := ⟨by simp [zsec], by rw [zsec_mark.1, zsec_mark.2], by rw [zsec_mark.1, rd_cp (by decide) (by decide)]; exact h⟩
theorem weak_mark {T t s : Nat} (h : t < T) (ht : t < 2 ^ 64) (hs : s < 2 ^ 64) : Weak T (markS t s) := ⟨sec_len _, by rw [c1_mark, c2_mark], by rw [c1_mark, rd_cp ht hs]; exact h⟩
theorem Weak.mono {T T' : Nat} {o : Sec} (h : Weak T o) (hT : T ≤ T') : Weak T' o := ⟨h.1, h.2.1, Nat.lt_of_lt_of_le h.2.2 hT⟩
theorem better_weak {T s : Nat} {o : Sec} (h : Weak T o) : better (T, s) o = (T, s) := if_neg fun e => by have := h.2.2; have := e.2; simp only at this; omega
theorem better_weak0 {T : Nat} {o : Sec} (h : Weak T o) : (better (0, 0) o).1 < T ∨ better (0, 0) o = (0, 0) := by
  unfold better; split
  · exact .inl h.2.2
  · exact .inr rfl
theorem better_mark {x : Nat × Nat} {t s : Nat} (ht : t < 2 ^ 64) (hs : s < 2 ^ 64) (h : x.1 < t) : better x (markS t s) = (t, s) := by
  unfold better; rw [c1_mark, c2_mark, rd_cp ht hs, if_pos ⟨rfl, h⟩]
/-- A torn mark over a weak sector: none, the old one, or the new one. -/
theorem torn_mark {T t s j : Nat} {o : Sec} (h : Weak T o) (_hT : t < 2 ^ 64) (_hs : s < 2 ^ 64) (_ht : T ≤ t) : Weak T ((markS t s).take j ++ o.drop j) ∨ rd (c1 ((markS t s).take j ++ o.drop j)) ≠ rd (c2 ((markS t s).take j ++ o.drop j)) ∨ (c1 ((markS t s).take j ++ o.drop j) = cp t s ∧ c2 ((markS t s).take j ++ o.drop j) = cp t s) := by
  obtain ⟨ho, hc, hT2⟩ := h
  have hm : (markS t s).length = 64 := sec_len _
  generalize hx : (markS t s).take j ++ o.drop j = x
  have hxl : x.length = 64 := by
    rw [← hx, List.length_append, List.length_take, List.length_drop, hm, ho]; omega
  by_cases hj : j ≤ 16
  · -- the second copy is the old one
    have e2 : c2 x = c2 o := by
      rw [← hx, c2, c2, List.drop_append, List.length_take, hm, List.drop_of_length_le (by rw [List.length_take]; omega), List.nil_append, List.drop_drop, show j + (16 - min j 64) = 16 from by omega]
    by_cases e : rd (c1 x) = rd (c2 x)
    · left
      have e3 : c1 x = c2 x := rd_inj (by rw [c1, List.length_take]; omega) (by rw [c2, List.length_take, List.length_drop]; omega) e
      exact ⟨hxl, e3, by rw [e, e2, ← hc]; exact hT2⟩
    · exact .inr (.inl e)
  · have e1 : c1 x = cp t s := by
      rw [← hx, c1, List.take_append_of_le_length (by rw [List.length_take]; omega), List.take_take, show min 16 j = 16 from by omega]
      exact c1_mark t s
    by_cases e : rd (c1 x) = rd (c2 x)
    · right; right
      exact ⟨e1, by rw [← rd_inj (by rw [c1, List.length_take]; omega) (by rw [c2, List.length_take, List.length_drop]; omega) e, e1]⟩
    · exact .inr (.inl e)
theorem better_bad {x : Nat × Nat} {s : Sec} (h : rd (c1 s) ≠ rd (c2 s)) : better x s = x := if_neg fun e => h e.1
theorem better_new {x : Nat × Nat} {t s : Nat} {o : Sec} (ht : t < 2 ^ 64) (hs : s < 2 ^ 64) (h1 : c1 o = cp t s) (h2 : c2 o = cp t s) (h : x.1 < t) : better x o = (t, s) := by
  unfold better; rw [h1, h2, rd_cp ht hs, if_pos ⟨rfl, h⟩]
theorem better_low {x : Nat × Nat} {t s : Nat} {o : Sec} (ht : t < 2 ^ 64) (hs : s < 2 ^ 64) (h1 : c1 o = cp t s) (h : t ≤ x.1) : better x o = x := by
  unfold better; rw [if_neg]; rw [h1, rd_cp ht hs]; rintro ⟨_, h'⟩; simp only at h'; omega

/- 3. RECORDS -/
def enc (rs : List (List UInt8)) : List UInt8 := rs.flatMap fun r => leb 4 r.length ++ r
def usedV (rs : List (List UInt8)) : Nat := (rs.map fun r => r.length + 12).sum
theorem enc_nil : enc [] = [] := rfl
theorem enc_snoc (rs : List (List UInt8)) (r : List UInt8) : enc (rs ++ [r]) = enc rs ++ (leb 4 r.length ++ r) := by simp [enc]
theorem enc_cons (rs : List (List UInt8)) (r : List UInt8) : enc (r :: rs) = leb 4 r.length ++ (r ++ enc rs) := by simp [enc]
theorem enc_append (a b : List (List UInt8)) : enc (a ++ b) = enc a ++ enc b := by simp [enc]
theorem used_snoc (rs : List (List UInt8)) (r : List UInt8) : usedV (rs ++ [r]) = usedV rs + (r.length + 12) := by simp [usedV]
theorem enc_len : ∀ rs : List (List UInt8), (enc rs).length + 8 * rs.length = usedV rs
  | [] => rfl
  | r :: rs => by
    have ih := enc_len rs
    rw [enc_cons, List.length_append, List.length_append, leb_len, List.length_cons, usedV, List.map_cons, List.sum_cons]
    rw [usedV] at ih; omega
theorem enc_pos {rs : List (List UInt8)} (h : (enc rs).length = 0) : rs = [] := by
  cases rs with
  | nil => rfl
  | cons r rs => rw [enc_cons, List.length_append, leb_len] at h; omega
theorem enc_take_pre (rs : List (List UInt8)) (k : Nat) : enc (rs.take k) <+: enc rs := ⟨enc (rs.drop k), by rw [← enc_append, List.take_append_drop]⟩

/- 4. REGIONS OF DISKS -/
/-- What a sector holds now. -/
def now (D : Dk) (k : Nat) : Sec := lst (D.at k)
/-- Every version of the sectors from base on agrees with these bytes. -/
def Held (D : Dk) (base : Nat) (p : List UInt8) : Prop := ∀ i j, j < 64 → 64 * i + j < p.length → ∀ v ∈ D.at ((base + i : Nat) : Int), v[j]? = p[64 * i + j]?
theorem Held.nil (D : Dk) (base : Nat) : Held D base [] := fun i j _ h => by simp at h
theorem Held.pre {D : Dk} {base : Nat} {p q : List UInt8} (h : Held D base q) (hp : p <+: q) : Held D base p := fun i j hj hl v hv => by
  obtain ⟨r, rfl⟩ := hp
  rw [h i j hj (by rw [List.length_append]; omega) v hv, List.getElem?_append_left hl]
/-- What is read of the sectors from base on. -/
def readN (D : Dk) (base : Nat) : Nat → List UInt8
  | 0 => []
  | m + 1 => readN D base m ++ now D (base + m)
end Go.Wl

namespace Go.Wl
open Go.Wk Go.Dsk

structure Lg where
  f : Int
  n : Int
  turn : UInt64
  size : UInt64
  data : List UInt8
  recs : List (List UInt8)
  used : Int
  synced : Int
structure LgOk (g : Lg) : Prop where
  f0 : 0 ≤ g.f
  f1 : g.f ≤ 100000
  n0 : 4 ≤ g.n
  n1 : g.n ≤ 100000
  d : g.data.length ≤ 10000000
  r : g.recs.length ≤ 10000000
  u0 : 0 ≤ g.used
  u1 : g.used ≤ 100000000
  s0 : 0 ≤ g.synced
  s1 : g.synced ≤ 100000000
  z : g.size.toNat ≤ g.data.length
def putK (f : Int) (t : UInt64) : Int := f + ((t % 2).toNat : Int)
def putS (t s : UInt64) : Sec := markS t.toNat s.toNat
def putD (D : Dk) (f : Int) (t s : UInt64) : Dk := if D.writeE (putK f t) (putS t s) ≠ 0 then D else (D.write (putK f t) (putS t s)).flush
def putE (D : Dk) (f : Int) (t s : UInt64) : Int := if D.writeE (putK f t) (putS t s) ≠ 0 then 10 else if (D.write (putK f t) (putS t s)).flushE ≠ 0 then 10 else 0
def putL (g : Lg) (D : Dk) (t s : UInt64) : Lg := if putE D g.f t s = 0 then { g with turn := t, size := s } else g
theorem writeE_ne {D : Dk} {k : Int} {s : Sec} (h : D.writeE k s ≠ 0) : D.write k s = D := by
  unfold Dk.writeE at h; unfold Dk.write
  split at h
  · rw [if_neg (fun e => h e.2)]
  · rename_i h2; rw [if_neg (fun e => h2 e.1)]
theorem flushE_ne {D : Dk} (h : D.flushE ≠ 0) : D.flush = D := by
  unfold Dk.flushE at h; unfold Dk.flush
  split
  · rfl
  · rename_i h2; rw [if_neg h2] at h; exact absurd rfl h
theorem put_err1 {D : Dk} {f : Int} {t s : UInt64} (h : D.writeE (putK f t) (putS t s) ≠ 0) : putD D f t s = D ∧ putE D f t s = 10 := ⟨if_pos h, if_pos h⟩
theorem put_err2 {D : Dk} {f : Int} {t s : UInt64} (h : ¬ D.writeE (putK f t) (putS t s) ≠ 0) (h2 : (D.write (putK f t) (putS t s)).flushE ≠ 0) : putD D f t s = (D.write (putK f t) (putS t s)).flush ∧ putE D f t s = 10 := ⟨if_neg h, by unfold putE; rw [if_neg h, if_pos h2]⟩
theorem put_okk {D : Dk} {f : Int} {t s : UInt64} (h : ¬ D.writeE (putK f t) (putS t s) ≠ 0) (h2 : ¬ (D.write (putK f t) (putS t s)).flushE ≠ 0) : putD D f t s = (D.write (putK f t) (putS t s)).flush ∧ putE D f t s = 0 := ⟨if_neg h, by unfold putE; rw [if_neg h, if_neg h2]⟩
theorem putL_err {g : Lg} {D : Dk} {t s : UInt64} (h : putE D g.f t s = 10) : putL g D t s = g := if_neg (by rw [h]; decide)
theorem putL_ok {g : Lg} {D : Dk} {t s : UInt64} (h : putE D g.f t s = 0) : putL g D t s = { g with turn := t, size := s } := if_pos h
theorem putE_cases (D : Dk) (f : Int) (t s : UInt64) : putE D f t s = 0 ∨ putE D f t s = 10 := by
  unfold putE; split
  · exact .inr rfl
  · split
    · exact .inr rfl
    · exact .inl rfl
def roomV (g : Lg) : Int := max (-1) (min 4000 (64 * (g.n - 2) - g.used - 12))
def cps (t s : UInt64) : Nat → List UInt8
  | 0 => []
  | i + 1 => cps t s i ++ leb 8 t.toNat ++ leb 8 s.toNat
theorem cps_len (t s : UInt64) : ∀ i, (cps t s i).length = 16 * i
  | 0 => rfl
  | i + 1 => by rw [cps, List.length_append, List.length_append, cps_len t s i, leb_len, leb_len]; omega
theorem cps_two (t s : UInt64) : sec (cps t s 2) = putS t s := by simp [cps, putS, markS, markB, cp]
theorem putD_ok {D : Dk} {m : Nat} (h : D.ok m) (f : Int) (t s : UInt64) : (putD D f t s).ok (m + 1) := by
  unfold putD; split
  · exact h.mono (by omega)
  · exact (h.write _ _).flush (by omega)
def resetL (g : Lg) (D : Dk) : Lg := if putE D g.f (g.turn + 1) 0 = 0 then { g with turn := g.turn + 1, size := 0, data := [], recs := [], used := 0, synced := 0 } else g
theorem resetL_ok {g : Lg} {D : Dk} (h : putE D g.f (g.turn + 1) 0 = 0) : resetL g D = { g with turn := g.turn + 1, size := 0, data := [], recs := [], used := 0, synced := 0 } := if_pos h
theorem resetL_err {g : Lg} {D : Dk} (h : putE D g.f (g.turn + 1) 0 ≠ 0) : resetL g D = g := if_neg h
theorem len64w (n : Nat) : UInt64.ofNat ((n : Int) % 18446744073709551616).toNat = UInt64.ofNat n := by
  apply UInt64.toNat_inj.1; rw [UInt64.toNat_ofNat', UInt64.toNat_ofNat']; omega
def chunkAt (data : List UInt8) (q : Nat) : List UInt8 := (data.drop (64 * q)).take 64
theorem chunkAt_len (data : List UInt8) (q : Nat) : (chunkAt data q).length ≤ 64 := by rw [chunkAt, List.length_take]; omega
theorem chunkAt_eq {data : List UInt8} {q h : Nat} (hq : 64 * q ≤ data.length) (hh : h = min (64 * q + 64) data.length) : (data.drop (64 * q)).take (h - 64 * q) = chunkAt data q := by
  rw [chunkAt, List.take_eq_take_iff, List.length_drop]; omega
/-- The data is written from sector q on: the disk, and whether all went well. -/
def wloop (f : Int) (data : List UInt8) : Dk → Nat → Nat → Dk × Bool
  | D, _, 0 => (D, true)
  | D, q, k + 1 => if D.writeE (f + 2 + q) (sec (chunkAt data q)) ≠ 0 then (D, false) else wloop f data (D.write (f + 2 + q) (sec (chunkAt data q))) (q + 1) k
def wcnt (g : Lg) : Nat := (g.data.length + 63) / 64 - g.size.toNat / 64
def wl (g : Lg) (D : Dk) : Dk × Bool := wloop g.f g.data D (g.size.toNat / 64) (wcnt g)
def syT (g : Lg) : UInt64 := g.turn + 1
def syS (g : Lg) : UInt64 := UInt64.ofNat g.data.length
/-- Sync: the log, the disk, the error. -/
def syncR (g : Lg) (D : Dk) : Lg × Dk × Int :=
  if D.off = true then (g, D, 10) else if g.synced = g.recs.length then (g, D, 0)
  else if (wl g D).2 = false then (g, (wl g D).1, 10)
  else if (wl g D).1.flushE ≠ 0 then (g, (wl g D).1.flush, 10)
  else if putE (wl g D).1.flush g.f (syT g) (syS g) ≠ 0 then (g, putD (wl g D).1.flush g.f (syT g) (syS g), 10)
  else ({ g with turn := syT g, size := syS g, synced := g.recs.length }, putD (wl g D).1.flush g.f (syT g) (syS g), 0)
theorem syncR_off {g : Lg} {D : Dk} (h : D.off = true) : syncR g D = (g, D, 10) := if_pos h
theorem syncR_none {g : Lg} {D : Dk} (h : D.off = false) (h2 : g.synced = g.recs.length) : syncR g D = (g, D, 0) := by unfold syncR; rw [if_neg (by rw [h]; decide), if_pos h2]
theorem syncR_w {g : Lg} {D : Dk} (h : D.off = false) (h2 : ¬ g.synced = g.recs.length) {E : Dk} (h3 : wl g D = (E, false)) : syncR g D = (g, E, 10) := by unfold syncR; rw [if_neg (by rw [h]; decide), if_neg h2, if_pos (by rw [h3]), h3]
theorem syncR_f {g : Lg} {D : Dk} (h : D.off = false) (h2 : ¬ g.synced = g.recs.length) {E : Dk} (h3 : wl g D = (E, true)) (h4 : E.flushE ≠ 0) : syncR g D = (g, E.flush, 10) := by unfold syncR; rw [if_neg (by rw [h]; decide), if_neg h2, h3, if_neg (by simp), if_pos h4]
theorem syncR_p {g : Lg} {D : Dk} (h : D.off = false) (h2 : ¬ g.synced = g.recs.length) {E : Dk} (h3 : wl g D = (E, true)) (h4 : ¬ E.flushE ≠ 0) (h5 : putE E.flush g.f (syT g) (syS g) ≠ 0) : syncR g D = (g, putD E.flush g.f (syT g) (syS g), 10) := by unfold syncR; rw [if_neg (by rw [h]; decide), if_neg h2, h3, if_neg (by simp), if_neg h4, if_pos h5]
theorem syncR_ok {g : Lg} {D : Dk} (h : D.off = false) (h2 : ¬ g.synced = g.recs.length) {E : Dk} (h3 : wl g D = (E, true)) (h4 : ¬ E.flushE ≠ 0) (h5 : putE E.flush g.f (syT g) (syS g) = 0) :
    syncR g D = ({ g with turn := syT g, size := syS g, synced := g.recs.length }, putD E.flush g.f (syT g) (syS g), 0) := by unfold syncR; rw [if_neg (by rw [h]; decide), if_neg h2, h3, if_neg (by simp), if_neg h4, if_neg (fun e => e h5)]
def appE (g : Lg) (D : Dk) (rec : List UInt8) : Int := if 4000 < (rec.length : Int) then 2 else if roomV g < rec.length then 9 else if D.off = true then 10 else 0
def appL (g : Lg) (D : Dk) (rec : List UInt8) : Lg := if appE g D rec = 0 then { g with data := g.data ++ leb 4 rec.length ++ rec, recs := g.recs ++ [rec], used := g.used + (rec.length + 12) } else g
theorem appL_ok {g : Lg} {D : Dk} {rec : List UInt8} (h : appE g D rec = 0) : appL g D rec = { g with data := g.data ++ leb 4 rec.length ++ rec, recs := g.recs ++ [rec], used := g.used + (rec.length + 12) } := if_pos h
theorem appL_err {g : Lg} {D : Dk} {rec : List UInt8} {e : Int} (h : appE g D rec = e) (he : e ≠ 0) : appL g D rec = g := if_neg (by rw [h]; exact he)
abbrev Mk := UInt64 × UInt64
def rdU (b : List UInt8) : Mk := (UInt64.ofNat (lev (b.take 8)), UInt64.ofNat (lev ((b.drop 8).take 8)))
def betU (x : Mk) (s : Sec) : Mk := if rdU (c1 s) = rdU (c2 s) ∧ x.1 < (rdU (c1 s)).1 then rdU (c1 s) else x
def nowI (D : Dk) (k : Int) : Sec := lst (D.at k)
def nwI (D : Dk) (f : Int) : Nat → Mk
  | 0 => (0, 0)
  | i + 1 => betU (nwI D f i) (nowI D (f + i))
def nwE (D : Dk) (f : Int) : Int := if (nwI D f 2).1 = 0 then 7 else 0
def nwM (D : Dk) (f : Int) : Mk := if (nwI D f 2).1 = 0 then (0, 0) else nwI D f 2
theorem rdU_parts {s : Sec} (_h : s.length = 64) : rdU (c1 s) = (UInt64.ofNat (lev ((s.drop 0).take 8)), UInt64.ofNat (lev ((s.drop 8).take (16 - 8)))) ∧ rdU (c2 s) = (UInt64.ofNat (lev ((s.drop 16).take (24 - 16))), UInt64.ofNat (lev ((s.drop 24).take (32 - 24)))) := by
  unfold rdU c1 c2
  refine ⟨?_, ?_⟩
  · rw [List.drop_zero, List.take_take, List.drop_take, List.take_take]; rfl
  · rw [List.take_take, List.drop_take, List.take_take, List.drop_drop]; rfl
theorem read_on {D : Dk} {k : Int} (h0 : 0 ≤ k) (h1 : k < D.S.length) (hon : D.off = false) : D.read k = (nowI D k, 0) := if_pos (Dk.errOf_zero.2 ⟨h0, h1, hon⟩)
theorem nowI_len {D : Dk} {m : Nat} (h : D.ok m) {k : Int} (h0 : 0 ≤ k) (h1 : k < D.S.length) : (nowI D k).length = 64 := by
  obtain ⟨a, _, c⟩ := h.all _ (mem_of (Dk.at_mem h0 h1))
  exact c _ (lst_mem a)
/-- The error of a region. -/
def checkV (D : Dk) (f n : Int) : Int := if n < 4 ∨ f < 0 ∨ (D.S.length : Int) < n ∨ (D.S.length : Int) - n < f then 5 else if D.off then 10 else 0
theorem checkV_zero {D : Dk} {f n : Int} : checkV D f n = 0 ↔ 4 ≤ n ∧ 0 ≤ f ∧ n ≤ D.S.length ∧ f ≤ (D.S.length : Int) - n ∧ D.off = false := by
  unfold checkV
  split
  · constructor
    · intro h; cases h
    · rintro ⟨_, _, _, _, _⟩; omega
  · split
    · rename_i h; constructor
      · intro h; cases h
      · rintro ⟨_, _, _, _, h2⟩; rw [h2] at h; cases h
    · rename_i h1 h2
      exact ⟨fun _ => ⟨by omega, by omega, by omega, by omega, by simpa using h2⟩, fun _ => rfl⟩
def lg0 (f n : Int) (t s : UInt64) : Lg := ⟨f, n, t, s, [], [], 0, 0⟩
/-- Sectors of zeros are written from i on. -/
def zloop (f : Int) : Dk → Nat → Nat → Dk × Bool
  | D, _, 0 => (D, true)
  | D, i, k + 1 => if D.writeE (f + i) zsec ≠ 0 then (D, false) else zloop f (D.write (f + i) zsec) (i + 1) k
def fmtR (D : Dk) (f n : Int) : Dk × Int :=
  if checkV D f n ≠ 0 then (D, checkV D f n)
  else if (zloop f D 0 n.toNat).2 = false then ((zloop f D 0 n.toNat).1, 10)
  else if (zloop f D 0 n.toNat).1.flushE ≠ 0 then ((zloop f D 0 n.toNat).1.flush, 10)
  else (putD (zloop f D 0 n.toNat).1.flush f 1 0, putE (zloop f D 0 n.toNat).1.flush f 1 0)
theorem fmtR_c {D : Dk} {f n : Int} (h : checkV D f n ≠ 0) : fmtR D f n = (D, checkV D f n) := if_pos h
theorem fmtR_z {D E : Dk} {f : Int} {n : Nat} (h : checkV D f n = 0) (h2 : zloop f D 0 n = (E, false)) : fmtR D f n = (E, 10) := by unfold fmtR; rw [if_neg (fun e => e h), Int.toNat_natCast, h2, if_pos rfl]
theorem fmtR_f {D E : Dk} {f : Int} {n : Nat} (h : checkV D f n = 0) (h2 : zloop f D 0 n = (E, true)) (h3 : E.flushE ≠ 0) : fmtR D f n = (E.flush, 10) := by unfold fmtR; rw [if_neg (fun e => e h), Int.toNat_natCast, h2, if_neg (by simp), if_pos h3]
theorem fmtR_p {D E : Dk} {f : Int} {n : Nat} (h : checkV D f n = 0) (h2 : zloop f D 0 n = (E, true)) (h3 : ¬ E.flushE ≠ 0) : fmtR D f n = (putD E.flush f 1 0, putE E.flush f 1 0) := by unfold fmtR; rw [if_neg (fun e => e h), Int.toNat_natCast, h2, if_neg (by simp), if_neg h3]
theorem lg0_ok {f : Int} {n : Nat} (h0 : 0 ≤ f) (h1 : f ≤ 100000) (h2 : 4 ≤ n) (h3 : n ≤ 100000) (t : UInt64) : LgOk (lg0 f n t 0) :=
  ⟨h0, h1, by show (4 : Int) ≤ n; omega, by show (n : Int) ≤ 100000; omega, by show 0 ≤ 10000000; decide, by show 0 ≤ 10000000; decide, by show (0 : Int) ≤ 0; decide, by show (0 : Int) ≤ 100000000; decide, by show (0 : Int) ≤ 0; decide, by show (0 : Int) ≤ 100000000; decide, by show (0 : UInt64).toNat ≤ 0; decide⟩
/-- The region holds just these records. -/
structure Fits (D : Dk) (f n : Int) (rs : List (List UInt8)) : Prop where
  e : nwE D f = 0
  z : (nwM D f).2.toNat = (enc rs).length
  l : ((enc rs).length : Int) ≤ 64 * (n - 2)
  d : ∀ q j : Nat, j < 64 → 64 * q + j < (enc rs).length → (nowI D (f + 2 + q))[j]? = (enc rs)[64 * q + j]?
def lgO (D : Dk) (f n : Int) (rs : List (List UInt8)) : Lg := ⟨f, n, (nwM D f).1, (nwM D f).2, enc rs, rs, usedV rs, rs.length⟩
theorem open_step {X e : List UInt8} {q h : Nat} (_hX : X.length = 64) (hh : h = min 64 (e.length - 64 * q)) (hq : 64 * q < e.length) (hd : ∀ j, j < 64 → 64 * q + j < e.length → X[j]? = e[64 * q + j]?) : e.take (64 * q) ++ X.take h = e.take (64 * (q + 1)) := by
  have hl : (e.take (64 * q)).length = 64 * q := by rw [List.length_take]; omega
  apply List.ext_getElem?
  intro i
  by_cases h1 : i < 64 * q
  · rw [List.getElem?_append_left (by omega), List.getElem?_take_of_lt h1, List.getElem?_take_of_lt (by omega)]
  · rw [List.getElem?_append_right (by omega), hl, List.getElem?_take, List.getElem?_take]
    by_cases h2 : i < 64 * (q + 1)
    · by_cases h3 : i < e.length
      · rw [if_pos (by omega), if_pos h2, hd (i - 64 * q) (by omega) (by omega), show 64 * q + (i - 64 * q) = i from by omega]
      · rw [if_neg (by omega), if_pos h2, List.getElem?_eq_none (by omega)]
    · rw [if_neg (by omega), if_neg h2]
theorem enc_ge : ∀ rs : List (List UInt8), 4 * rs.length ≤ (enc rs).length
  | [] => by simp
  | r :: rs => by
    have ih := enc_ge rs
    rw [enc_cons, List.length_append, List.length_append, leb_len, List.length_cons]; omega
theorem enc_at {rs : List (List UInt8)} {k : Nat} {r : List UInt8} (h : rs[k]? = some r) : enc rs = enc (rs.take k) ++ (leb 4 r.length ++ (r ++ enc (rs.drop (k + 1)))) := by
  obtain ⟨hk, e⟩ := List.getElem?_eq_some_iff.1 h
  conv => lhs; rw [← List.take_append_drop k rs, enc_append, List.drop_eq_getElem_cons hk, e, enc_cons]
theorem enc_step {rs : List (List UInt8)} {k : Nat} {r : List UInt8} (h : rs[k]? = some r) : (enc (rs.take (k + 1))).length = (enc (rs.take k)).length + 4 + r.length ∧ rs.take k ++ [r] = rs.take (k + 1) ∧ usedV (rs.take (k + 1)) = usedV (rs.take k) + (r.length + 12) := by
  have e : rs.take (k + 1) = rs.take k ++ [r] := by rw [List.take_add_one, h]; rfl
  rw [e]
  refine ⟨?_, rfl, used_snoc _ _⟩
  rw [enc_snoc, List.length_append, List.length_append, leb_len]; omega
theorem enc_head {rs : List (List UInt8)} {k : Nat} {r : List UInt8} (h : rs[k]? = some r) : ((enc rs).drop (enc (rs.take k)).length).take 4 = leb 4 r.length ∧ ((enc rs).drop ((enc (rs.take k)).length + 4)).take r.length = r ∧ (enc (rs.take k)).length + 4 + r.length ≤ (enc rs).length := by
  have e := enc_at h
  refine ⟨?_, ?_, ?_⟩
  · rw [e, List.drop_left, List.take_append_of_le_length (by rw [leb_len]; omega), List.take_of_length_le (by rw [leb_len]; omega)]
  · rw [e, ← List.drop_drop, List.drop_left, List.drop_append_of_le_length (by rw [leb_len]; omega), List.drop_of_length_le (by rw [leb_len]; omega), List.nil_append, List.take_left]
  · rw [e]; simp only [List.length_append, leb_len]; omega
end Go.Wl

namespace Go.Wl
open Go.Wk Go.Dsk

theorem getD_set {α : Type} {l : List α} {i j : Nat} {x d : α} (h : i < l.length) : (l.set i x).getD j d = if j = i then x else l.getD j d := by
  by_cases e : j = i
  · subst e; rw [if_pos rfl, List.getD_eq_getElem?_getD, List.getElem?_set_self h]; rfl
  · rw [if_neg e, List.getD_eq_getElem?_getD, List.getElem?_set_ne (Ne.symm e), List.getD_eq_getElem?_getD]
theorem at_add {D : Dk} {k j : Int} {s : Sec} (h0 : 0 ≤ k) (h1 : k < D.S.length) (hj : 0 ≤ j) : (D.add k s).at j = if j = k then D.at k ++ [s] else D.at j := by
  unfold Dk.at Dk.add
  simp only
  rw [getD_set (by omega)]
  by_cases e : j = k
  · subst e; rw [if_pos rfl, if_pos rfl]; rfl
  · rw [if_neg (by omega), if_neg e]
theorem lst_snoc (l : List Sec) (s : Sec) : lst (l ++ [s]) = s := by simp [lst]
theorem now_add {D : Dk} {k j : Int} {s : Sec} (h0 : 0 ≤ k) (h1 : k < D.S.length) (hj : 0 ≤ j) : nowI (D.add k s) j = if j = k then s else nowI D j := by
  unfold nowI; rw [at_add h0 h1 hj]
  split
  · exact lst_snoc _ _
  · rfl
theorem at_flushed {D : Dk} {j : Int} (h0 : 0 ≤ j) (h1 : j < D.S.length) : D.flushed.at j = [nowI D j] := by
  have h : j.toNat < D.S.length := by omega
  unfold nowI Dk.at Dk.flushed
  simp only
  rw [List.getD_eq_getElem?_getD, List.getD_eq_getElem?_getD, List.getElem?_map, List.getElem?_eq_getElem h]; rfl
theorem now_flushed {D : Dk} {j : Int} (h0 : 0 ≤ j) (h1 : j < D.S.length) : nowI D.flushed j = nowI D j := by
  show lst (D.flushed.at j) = _
  rw [at_flushed h0 h1]; rfl
/-- Step on calm disks. -/
structure To (D E : Dk) (g : Int → Sec) : Prop where
  calm : E.calm
  len : E.S.length = D.S.length
  now : ∀ j : Int, 0 ≤ j → j < D.S.length → nowI E j = g j
theorem calm_write {D : Dk} (h : D.calm) {k : Int} {s : Sec} (h0 : 0 ≤ k) (h1 : k < D.S.length) (hs : s.length = 64) : D.writeE k s = 0 ∧ To D (D.write k s) (fun j => if j = k then s else nowI D j) := by
  rw [h.write h0 h1 hs]
  exact ⟨h.writeE h0 h1 hs, h.add _ _, Dk.add_len _ _ _, fun j hj _ => now_add h0 h1 hj⟩
theorem calm_flush {D : Dk} (h : D.calm) : D.flushE = 0 ∧ To D D.flush (nowI D) := by
  rw [h.flush]
  exact ⟨h.flushE, h.flushed, flushed_len _, fun j h0 h1 => now_flushed h0 h1⟩
theorem zloop_calm {f : Int} (hf : 0 ≤ f) : ∀ (k i : Nat) {D : Dk}, D.calm → f + i + k ≤ D.S.length → ∃ E, zloop f D i k = (E, true) ∧ To D E (fun j => if f + i ≤ j ∧ j < f + i + k then zsec else nowI D j)
  | 0, i, D, h, _ => ⟨D, rfl, h, rfl, fun j _ _ => (if_neg (by omega)).symm⟩
  | k + 1, i, D, h, hl => by
    obtain ⟨e1, t1⟩ := calm_write (s := zsec) h (k := f + i) (by omega) (by omega) (by simp [zsec])
    obtain ⟨E, e2, t2⟩ := zloop_calm hf k (i + 1) t1.calm (by rw [t1.len]; omega)
    refine ⟨E, by rw [zloop, if_neg (by rw [e1]; simp)]; exact e2, t2.calm, by rw [t2.len, t1.len], fun j h0 h1 => ?_⟩
    rw [t2.now j h0 (by rw [t1.len]; exact h1)]
    by_cases hj : j = f + i
    · rw [if_neg (by omega), t1.now j h0 h1, if_pos hj, if_pos (by omega)]
    · rw [t1.now j h0 h1, if_neg hj]
      by_cases h2 : f + i ≤ j ∧ j < f + i + (k + 1 : Nat)
      · rw [if_pos (by omega), if_pos h2]
      · rw [if_neg (by omega), if_neg h2]
theorem mod_two (t : UInt64) : (t % 2).toNat = t.toNat % 2 := by rw [UInt64.toNat_mod]; rfl
theorem putK_bd {f : Int} (t : UInt64) : f ≤ putK f t ∧ putK f t ≤ f + 1 := by
  have h := mod_two t
  unfold putK; omega
theorem put_calm {D : Dk} (h : D.calm) {f : Int} (hf : 0 ≤ f) (hl : f + 2 ≤ D.S.length) (t s : UInt64) : putE D f t s = 0 ∧ To D (putD D f t s) (fun j => if j = putK f t then putS t s else nowI D j) := by
  obtain ⟨k0, k1⟩ := putK_bd (f := f) t
  obtain ⟨e1, t1⟩ := calm_write (s := putS t s) h (k := putK f t) (by omega) (by omega) (sec_len _)
  obtain ⟨e2, t2⟩ := calm_flush t1.calm
  obtain ⟨a, b⟩ := put_okk (D := D) (f := f) (t := t) (s := s) (by rw [e1]; simp) (by rw [e2]; simp)
  rw [a]
  exact ⟨b, t2.calm, by rw [t2.len, t1.len], fun j h0 h1 => by rw [t2.now j h0 (by rw [t1.len]; exact h1), t1.now j h0 h1]⟩
theorem fmt_calm {D : Dk} (h : D.calm) {f n : Int} (hv : checkV D f n = 0) : (fmtR D f n).2 = 0 ∧ To D (fmtR D f n).1 (fun j => if j = f + 1 then putS 1 0 else if f ≤ j ∧ j < f + n then zsec else nowI D j) := by
  obtain ⟨h4, h0, h1, h2, _⟩ := checkV_zero.1 hv
  obtain ⟨N, rfl⟩ := Int.eq_ofNat_of_zero_le (show 0 ≤ n by omega)
  obtain ⟨E, e1, t1⟩ := zloop_calm h0 N 0 h (by omega)
  obtain ⟨e2, t2⟩ := calm_flush t1.calm
  obtain ⟨e3, t3⟩ := put_calm t2.calm h0 (by rw [t2.len, t1.len]; omega) 1 0
  rw [fmtR_p hv e1 (by rw [e2]; simp)]
  refine ⟨e3, t3.calm, by rw [t3.len, t2.len, t1.len], fun j h0 h1 => ?_⟩
  have hk : putK f 1 = f + 1 := by unfold putK; rw [mod_two]; rfl
  rw [t3.now j h0 (by rw [t2.len, t1.len]; exact h1), t2.now j h0 (by rw [t1.len]; exact h1), t1.now j h0 h1, hk]
  by_cases e : j = f + 1
  · rw [if_pos e, if_pos e]
  · rw [if_neg e, if_neg e]
    by_cases e2 : f ≤ j ∧ j < f + N
    · rw [if_pos (by omega), if_pos e2]
    · rw [if_neg (by omega), if_neg e2]
theorem fresh_now {n : Nat} {j : Int} (h0 : 0 ≤ j) (h1 : j < n) : nowI (fresh n) j = zsec := by
  have h : j.toNat < n := by omega
  unfold nowI Dk.at fresh
  simp only
  rw [List.getD_eq_getElem?_getD, List.getElem?_replicate, if_pos h]; rfl
theorem rdU_zero : rdU (c1 zsec) = (0, 0) ∧ rdU (c2 zsec) = (0, 0) := by rw [zsec_mark.1, zsec_mark.2]; decide
theorem betU_zero (x : Mk) : betU x zsec = x := if_neg fun h => by
  rw [rdU_zero.1] at h
  have := UInt64.lt_iff_toNat_lt.1 h.2
  simp at this
/-- No mark: the log cannot be opened. -/
theorem nw_zero {D : Dk} {f : Int} (h0 : nowI D f = zsec) (h1 : nowI D (f + 1) = zsec) : nwE D f = 7 := by
  have e : nwI D f 2 = (0, 0) := by
    show betU (betU (0, 0) (nowI D (f + (0 : Nat)))) (nowI D (f + (1 : Nat))) = _
    rw [show f + ((0 : Nat) : Int) = f from by omega, show f + ((1 : Nat) : Int) = f + 1 from by omega, h0, h1, betU_zero, betU_zero]
  unfold nwE; rw [e]; rfl
end Go.Wl

namespace Go.Wl
open Go.Wk Go.Dsk

/- 1. SECTOR BY SECTOR -/
theorem at_spend (D : Dk) (j : Int) : D.spend.at j = D.at j := by unfold Dk.at; rw [Dk.spend_S]
theorem at_blow (D : Dk) (n j : Int) : (D.blow n).at j = D.at j := by unfold Dk.at; rw [blow_S]
theorem writeE_on {D : Dk} {k : Int} {s : Sec} (h0 : 0 ≤ k) (h1 : k < D.S.length) (hs : s.length = 64) (hon : D.off = false) : D.writeE k s = 0 := by unfold Dk.writeE; rw [if_pos hs]; exact Dk.errOf_zero.2 ⟨h0, h1, hon⟩
theorem writeE_off {D : Dk} {k : Int} {s : Sec} (h0 : 0 ≤ k) (h1 : k < D.S.length) (hs : s.length = 64) (h : D.writeE k s ≠ 0) : D.off = true := by
  cases hb : D.off with
  | true => rfl
  | false => exact absurd (writeE_on h0 h1 hs hb) h
theorem at_write {D : Dk} {k j : Int} {s : Sec} (h0 : 0 ≤ k) (h1 : k < D.S.length) (hs : s.length = 64) (hw : ¬ D.writeE k s ≠ 0) (hj : 0 ≤ j) : (D.write k s).at j = if j = k then D.at k ++ [s] else D.at j := by
  have he : D.errOf k = 0 := by unfold Dk.writeE at hw; rw [if_pos hs] at hw; omega
  unfold Dk.write
  rw [if_pos ⟨hs, he⟩, at_spend, at_add h0 h1 hj]
theorem at_write_ne {D : Dk} {k j : Int} {s : Sec} (hj : 0 ≤ j) (h0 : 0 ≤ k) (h1 : k < D.S.length) (hne : j ≠ k) : (D.write k s).at j = D.at j := by
  unfold Dk.write
  split
  · rw [at_spend, at_add h0 h1 hj, if_neg hne]
  · rfl
theorem at_flush (D : Dk) (hoff : D.off = false) {j : Int} (h0 : 0 ≤ j) (h1 : j < D.S.length) : D.flush.at j = [nowI D j] := by
  unfold Dk.flush; rw [if_neg (by rw [hoff]; decide), at_spend, at_flushed h0 h1]
theorem at_out {D : Dk} {j : Int} (h1 : (D.S.length : Int) ≤ j) : D.at j = [] := by
  unfold Dk.at
  rw [List.getD_eq_getElem?_getD, List.getElem?_eq_none (by omega)]; rfl
theorem at_flush_cases (D : Dk) {j : Int} (h0 : 0 ≤ j) : D.flush.at j = D.at j ∨ j < D.S.length ∧ D.flush.at j = [lst (D.at j)] := by
  cases hoff : D.off with
  | true => left; unfold Dk.flush; rw [if_pos hoff]
  | false =>
    by_cases h1 : j < D.S.length
    · exact .inr ⟨h1, at_flush D hoff h0 h1⟩
    · left; rw [at_out (D := D) (by omega), at_out (D := D.flush) (by rw [flush_len]; omega)]
theorem at_ne {D : Dk} {m : Nat} (h : D.ok m) {j : Int} (h0 : 0 ≤ j) (h1 : j < D.S.length) : D.at j ≠ [] := (h.all _ (mem_of (Dk.at_mem h0 h1))).1
theorem flushE_on {D : Dk} (h : D.off = false) : D.flushE = 0 := by unfold Dk.flushE; rw [if_neg (by rw [h]; decide)]
theorem flushE_offz {D : Dk} (h : D.flushE ≠ 0) : D.off = true := by
  cases hb : D.off with
  | true => rfl
  | false => exact absurd (flushE_on hb) h
/-- Outside of a region a disk is as it was, or flushed. -/
def Frm (D E : Dk) (f n : Int) : Prop := ∀ j : Int, 0 ≤ j → (j < f ∨ f + n ≤ j) → E.at j = D.at j ∨ (j < D.S.length ∧ E.at j = [lst (D.at j)])
theorem Frm.refl (D : Dk) (f n : Int) : Frm D D f n := fun _ _ _ => .inl rfl
theorem lst_one' (x : Sec) : lst [x] = x := rfl
theorem Frm.trans {D E F : Dk} {f n : Int} (h : Frm D E f n) (h2 : Frm E F f n) (hl : E.S.length = D.S.length) : Frm D F f n := fun j h0 hj => by
  rcases h j h0 hj with e1 | ⟨l1, e1⟩ <;> rcases h2 j h0 hj with e2 | ⟨l2, e2⟩
  · exact .inl (e2.trans e1)
  · exact .inr ⟨by omega, by rw [e2, e1]⟩
  · exact .inr ⟨l1, e2.trans e1⟩
  · exact .inr ⟨l1, by rw [e2, e1, lst_one']⟩
theorem Frm.flush (D : Dk) (f n : Int) : Frm D D.flush f n := fun _ h0 _ => at_flush_cases D h0
theorem Frm.write {D : Dk} {f n k : Int} (s : Sec) (h0 : 0 ≤ k) (h1 : k < D.S.length) (hf : f ≤ k) (hn : k < f + n) : Frm D (D.write k s) f n := fun _ hj h => .inl (at_write_ne hj h0 h1 (by omega))
theorem Frm.one {D E : Dk} {f n : Int} (h : Frm D E f n) {j : Int} {x : Sec} (h0 : 0 ≤ j) (hj : j < f ∨ f + n ≤ j) (e : D.at j = [x]) : E.at j = [x] := by
  rcases h j h0 hj with e1 | ⟨_, e1⟩
  · rw [e1, e]
  · rw [e1, e, lst_one']
theorem Frm.mem {D E : Dk} {f n : Int} {m : Nat} (h : Frm D E f n) (hD : D.ok m) {j : Int} (h0 : 0 ≤ j) (hj : j < f ∨ f + n ≤ j) {v : Sec} (hv : v ∈ E.at j) : v ∈ D.at j := by
  rcases h j h0 hj with e1 | ⟨l1, e1⟩
  · rwa [e1] at hv
  · rw [e1, List.mem_singleton] at hv; rw [hv]; exact lst_mem (at_ne hD h0 l1)

/- 2. WHAT STANDS IN A REGION -/
def mkK (f : Int) (t : Nat) : Int := f + ((t % 2 : Nat) : Int)
theorem mkK_bd (f : Int) (t : Nat) : f ≤ mkK f t ∧ mkK f t ≤ f + 1 := by unfold mkK; omega
theorem mkK_ne (f : Int) (t : Nat) : mkK f t ≠ mkK f (t + 1) := by unfold mkK; omega
theorem mkK_two (f : Int) (t : Nat) : mkK f (t + 1 + 1) = mkK f t := by unfold mkK; omega
theorem putK_mk (f : Int) (t : UInt64) : putK f t = mkK f t.toNat := by unfold putK mkK; rw [mod_two]
/-- Every version of the data sectors agrees with these bytes. -/
def HeldI (D : Dk) (f : Int) (p : List UInt8) : Prop := ∀ q j : Nat, j < 64 → 64 * q + j < p.length → ∀ v ∈ D.at (f + 2 + q), v[j]? = p[64 * q + j]?
theorem HeldI.pre {D : Dk} {f : Int} {p q : List UInt8} (h : HeldI D f q) (hp : p <+: q) : HeldI D f p := fun i j hj hl v hv => by
  obtain ⟨r, rfl⟩ := hp
  rw [h i j hj (by rw [List.length_append]; omega) v hv, List.getElem?_append_left hl]
theorem HeldI.nil (D : Dk) (f : Int) : HeldI D f [] := fun i j _ h => by simp at h
theorem HeldI.of {D E : Dk} {f : Int} {p : List UInt8} (h : HeldI D f p) (hs : ∀ q : Nat, 64 * q < p.length → ∀ v ∈ E.at (f + 2 + q), v ∈ D.at (f + 2 + q)) : HeldI E f p := fun q j hj hl v hv => h q j hj hl v (hs q (by omega) v hv)
/-- All is durable: these records, and turn t. -/
structure Reg (D : Dk) (f : Int) (t : Nat) (pre : List (List UInt8)) : Prop where
  m : D.at (mkK f t) = [markS t (enc pre).length]
  o : ∃ o, D.at (mkK f (t + 1)) = [o] ∧ Weak t o
  h : HeldI D f (enc pre)
/-- A mark of other records is not yet durable. -/
structure Pen (D : Dk) (f : Int) (t : Nat) (pre new : List (List UInt8)) : Prop where
  m : D.at (mkK f t) = [markS t (enc pre).length]
  o : ∃ o, D.at (mkK f (t + 1)) = [o, markS (t + 1) (enc new).length] ∧ Weak t o
  h : HeldI D f (enc pre)
  h2 : HeldI D f (enc new)
theorem Reg.frame {D E : Dk} {f n f2 n2 : Int} {t m : Nat} {pre : List (List UInt8)} (h : Reg D f2 t pre) (hF : Frm D E f n) (hD : D.ok m) (h0 : 0 ≤ f2) (h4 : 4 ≤ n2) (hd : f2 + n2 ≤ f ∨ f + n ≤ f2) (hl : ((enc pre).length : Int) ≤ 64 * (n2 - 2)) : Reg E f2 t pre := by
  have b1 := mkK_bd f2 t
  have b2 := mkK_bd f2 (t + 1)
  obtain ⟨o, ho, hw⟩ := h.o
  refine ⟨hF.one (by omega) (by omega) h.m, ⟨o, hF.one (by omega) (by omega) ho, hw⟩, h.h.of fun q hq v hv => hF.mem hD (by omega) ?_ hv⟩
  rcases hd with hd | hd
  · left; omega
  · right; omega
theorem Pen.frame {D E : Dk} {f n f2 n2 : Int} {t m : Nat} {pre new : List (List UInt8)} (h : Pen D f2 t pre new) (hF : Frm D E f n) (hS : ∀ j : Int, 0 ≤ j → (j < f ∨ f + n ≤ j) → E.at j = D.at j) (hD : D.ok m) (h0 : 0 ≤ f2) (_h4 : 4 ≤ n2) (hd : f2 + n2 ≤ f ∨ f + n ≤ f2) (hl : ((enc pre).length : Int) ≤ 64 * (n2 - 2)) (hl2 : ((enc new).length : Int) ≤ 64 * (n2 - 2)) : Pen E f2 t pre new := by
  have b1 := mkK_bd f2 t
  have b2 := mkK_bd f2 (t + 1)
  obtain ⟨o, ho, hw⟩ := h.o
  refine ⟨hF.one (by omega) (by omega) h.m, ⟨o, by rw [hS _ (by omega) (by omega)]; exact ho, hw⟩, h.h.of fun q hq v hv => hF.mem hD (by omega) ?_ hv, h.h2.of fun q hq v hv => hF.mem hD (by omega) ?_ hv⟩
  · rcases hd with hd | hd
    · left; omega
    · right; omega
  · rcases hd with hd | hd
    · left; omega
    · right; omega

/- 3. RESTARTS -/
theorem at_get {D : Dk} {j : Int} (h0 : 0 ≤ j) (h1 : j < D.S.length) : D.S[j.toNat]? = some (D.at j) := Dk.at_mem h0 h1
theorem restart_at' {D : Dk} (ts : List Torn) {j : Int} (h0 : 0 ≤ j) (h1 : j < D.S.length) : (D.restart ts).at j = [left (D.at j) (firstOf ts j.toNat)] := by
  have e := restart_get (ts := ts) (at_get h0 h1)
  unfold Dk.at at e ⊢
  rw [List.getD_eq_getElem?_getD, e]; rfl
theorem restart_one {D : Dk} (ts : List Torn) {j : Int} {x : Sec} (h0 : 0 ≤ j) (h1 : j < D.S.length) (e : D.at j = [x]) : (D.restart ts).at j = [x] := by rw [restart_at' ts h0 h1, e, left_one]
theorem take_drop_get {x y : List UInt8} {k j : Nat} (hx : x.length = 64) (hy : y.length = 64) : (x.take k ++ y.drop k)[j]? = x[j]? ∨ (x.take k ++ y.drop k)[j]? = y[j]? := by
  by_cases h : j < min k 64
  · left
    rw [List.getElem?_append_left (by rw [List.length_take]; omega), List.getElem?_take_of_lt (by omega)]
  · right
    rw [List.getElem?_append_right (by rw [List.length_take]; omega), List.getElem?_drop, List.length_take, hx]
    by_cases h2 : k ≤ 64
    · rw [show k + (j - min k 64) = j from by omega]
    · rw [List.getElem?_eq_none (by omega), List.getElem?_eq_none (by omega)]
/-- What a restart leaves of a sector: a version, or a mix of two versions that follow one another. -/
theorem left_mix {l : List Sec} (o : Option Torn) (hl : l ≠ []) : (∃ v ∈ l, left l o = v) ∨ ∃ (i k : Nat), i + 1 < l.length ∧ left l o = (nth l (i + 1)).take k ++ (nth l i).drop k := by
  have hh : ∃ v ∈ l, hd l = v := ⟨_, hd_mem hl, rfl⟩
  cases o with
  | none => exact .inl hh
  | some t =>
    unfold left
    simp only
    split
    · unfold surv
      simp only
      split
      · exact .inr ⟨_, _, by assumption, rfl⟩
      · refine .inl ⟨_, nth_mem ?_, rfl⟩
        obtain ⟨q1, q2⟩ := limit_bd (n := t.w) (most := (l.length : Int) - 1) (by have := List.length_pos_iff.2 hl; omega)
        have := List.length_pos_iff.2 hl
        omega
    · exact .inl hh
theorem left_two {a b : Sec} (ha : a.length = 64) (hb : b.length = 64) (o : Option Torn) : ∃ k, left [a, b] o = b.take k ++ a.drop k := by
  rcases left_mix o (l := [a, b]) (by simp) with ⟨v, hv, e⟩ | ⟨i, k, hi, e⟩
  · rw [e]
    simp at hv
    rcases hv with rfl | rfl
    · exact ⟨0, by simp⟩
    · exact ⟨64, by rw [List.take_of_length_le (by omega), List.drop_of_length_le (by omega), List.append_nil]⟩
  · have : i = 0 := by simp at hi; omega
    subst this
    exact ⟨k, e⟩
theorem HeldI.restart {D : Dk} {f : Int} {p : List UInt8} {m : Nat} (h : HeldI D f p) (hD : D.ok m) (h0 : 0 ≤ f) (ts : List Torn) : HeldI (D.restart ts) f p := fun q j hj hl v hv => by
  by_cases h1 : f + 2 + (q : Int) < D.S.length
  · rw [restart_at' ts (by omega) h1, List.mem_singleton] at hv
    obtain ⟨g1, g2, g3⟩ := hD.all _ (mem_of (at_get (D := D) (j := f + 2 + q) (by omega) h1))
    rcases left_mix (firstOf ts (f + 2 + (q : Int)).toNat) g1 with ⟨w, hw, e⟩ | ⟨i, k, hi, e⟩
    · rw [hv, e]; exact h q j hj hl w hw
    · have m1 := nth_mem hi
      have m2 := nth_mem (Nat.lt_of_succ_lt hi)
      rw [hv, e]
      rcases take_drop_get (k := k) (j := j) (g3 _ m1) (g3 _ m2) with e' | e'
      · rw [e']; exact h q j hj hl _ m1
      · rw [e']; exact h q j hj hl _ m2
  · rw [at_out (by rw [restart_len]; omega)] at hv
    cases hv
theorem HeldI.now {D : Dk} {f : Int} {p : List UInt8} {m : Nat} (h : HeldI D f p) (hD : D.ok m) (h0 : 0 ≤ f) (hl : f + 2 + ((p.length + 63) / 64 : Nat) ≤ D.S.length) {q j : Nat} (hj : j < 64) (hq : 64 * q + j < p.length) : (nowI D (f + 2 + q))[j]? = p[64 * q + j]? :=
  h q j hj hq _ (lst_mem (at_ne hD (by omega) (by omega)))

/- 4. MARKS OF 64 BITS -/
def toN (x : Mk) : Nat × Nat := (x.1.toNat, x.2.toNat)
theorem toN_inj {x y : Mk} (h : toN x = toN y) : x = y := by
  obtain ⟨a, b⟩ := x; obtain ⟨c, d⟩ := y
  obtain ⟨h1, h2⟩ := Prod.mk.inj h
  exact Prod.ext (UInt64.toNat_inj.1 h1) (UInt64.toNat_inj.1 h2)
theorem toN_rd (b : List UInt8) : toN (rdU b) = rd b := by
  have h1 := lev_lt (b.take 8)
  have h2 := lev_lt ((b.drop 8).take 8)
  have k1 : 256 ^ (b.take 8).length ≤ 256 ^ 8 := Nat.pow_le_pow_right (by decide) (by rw [List.length_take]; omega)
  have k2 : 256 ^ ((b.drop 8).take 8).length ≤ 256 ^ 8 := Nat.pow_le_pow_right (by decide) (by rw [List.length_take]; omega)
  unfold toN rdU rd
  rw [UInt64.toNat_ofNat', UInt64.toNat_ofNat', Nat.mod_eq_of_lt (by omega), Nat.mod_eq_of_lt (by omega)]
theorem toN_bet (x : Mk) (s : Sec) : toN (betU x s) = better (toN x) s := by
  unfold betU better
  rw [← toN_rd, ← toN_rd]
  by_cases h : rdU (c1 s) = rdU (c2 s) ∧ x.1 < (rdU (c1 s)).1
  · rw [if_pos h, if_pos ⟨congrArg toN h.1, UInt64.lt_iff_toNat_lt.1 h.2⟩]
  · rw [if_neg h, if_neg fun e => h ⟨toN_inj e.1, UInt64.lt_iff_toNat_lt.2 e.2⟩]
theorem nw_toN (D : Dk) (f : Int) : toN (nwI D f 2) = better (better (0, 0) (nowI D f)) (nowI D (f + 1)) := by
  show toN (betU (betU (0, 0) (nowI D (f + (0 : Nat)))) (nowI D (f + (1 : Nat)))) = _
  rw [toN_bet, toN_bet, show f + ((0 : Nat) : Int) = f from by omega, show f + ((1 : Nat) : Int) = f + 1 from by omega]; rfl
/-- The newest mark is this one. -/
theorem nw_of {D : Dk} {f : Int} {t s : Nat} (ht : t ≠ 0) (h : toN (nwI D f 2) = (t, s)) : nwE D f = 0 ∧ (nwM D f).1.toNat = t ∧ (nwM D f).2.toNat = s := by
  obtain ⟨h1, h2⟩ := Prod.mk.inj h
  have hne : ¬ (nwI D f 2).1 = 0 := fun e => ht (by rw [← h1, e]; rfl)
  unfold nwE nwM
  rw [if_neg hne, if_neg hne]
  exact ⟨rfl, h1, h2⟩
theorem better_zero_lt {x : Nat × Nat} {T : Nat} {o : Sec} (h : better (0, 0) o = x) (hw : Weak T o) (hT : 0 < T) : x.1 < T := by
  subst h
  rcases better_weak0 hw with h | h
  · exact h
  · rw [h]; exact hT
/-- One sector holds a mark, the other one a weak one. -/
theorem nw_weak {D : Dk} {f : Int} {t s : Nat} {o : Sec} (h1 : nowI D (mkK f t) = markS t s) (h2 : nowI D (mkK f (t + 1)) = o) (ho : Weak t o) (ht0 : 0 < t) (ht : t < 2 ^ 64) (hs : s < 2 ^ 64) : toN (nwI D f 2) = (t, s) := by
  rw [nw_toN]
  by_cases h : t % 2 = 0
  · have e1 : mkK f t = f := by unfold mkK; omega
    have e2 : mkK f (t + 1) = f + 1 := by unfold mkK; omega
    rw [e1] at h1; rw [e2] at h2
    rw [h1, h2, better_mark ht hs ht0, better_weak ho]
  · have e1 : mkK f t = f + 1 := by unfold mkK; omega
    have e2 : mkK f (t + 1) = f := by unfold mkK; omega
    rw [e1] at h1; rw [e2] at h2
    rw [h1, h2, better_mark ht hs (better_zero_lt rfl ho ht0)]
theorem nw_bad {D : Dk} {f : Int} {t s : Nat} {o : Sec} (h1 : nowI D (mkK f t) = markS t s) (h2 : nowI D (mkK f (t + 1)) = o) (ho : rd (c1 o) ≠ rd (c2 o)) (ht0 : 0 < t) (ht : t < 2 ^ 64) (hs : s < 2 ^ 64) : toN (nwI D f 2) = (t, s) := by
  rw [nw_toN]
  by_cases h : t % 2 = 0
  · have e1 : mkK f t = f := by unfold mkK; omega
    have e2 : mkK f (t + 1) = f + 1 := by unfold mkK; omega
    rw [e1] at h1; rw [e2] at h2
    rw [h1, h2, better_mark ht hs ht0, better_bad ho]
  · have e1 : mkK f t = f + 1 := by unfold mkK; omega
    have e2 : mkK f (t + 1) = f := by unfold mkK; omega
    rw [e1] at h1; rw [e2] at h2
    rw [h1, h2, better_bad ho, better_mark ht hs ht0]
theorem nw_new {D : Dk} {f : Int} {t s s' : Nat} {o : Sec} (h1 : nowI D (mkK f t) = markS t s) (h2 : nowI D (mkK f (t + 1)) = o) (ho : c1 o = cp (t + 1) s') (ho2 : c2 o = cp (t + 1) s') (ht0 : 0 < t) (ht : t + 1 < 2 ^ 64) (hs : s < 2 ^ 64) (hs' : s' < 2 ^ 64) : toN (nwI D f 2) = (t + 1, s') := by
  rw [nw_toN]
  by_cases h : t % 2 = 0
  · have e1 : mkK f t = f := by unfold mkK; omega
    have e2 : mkK f (t + 1) = f + 1 := by unfold mkK; omega
    rw [e1] at h1; rw [e2] at h2
    rw [h1, h2, better_mark (by omega) hs ht0, better_new ht hs' ho ho2 (by simp only; omega)]
  · have e1 : mkK f t = f + 1 := by unfold mkK; omega
    have e2 : mkK f (t + 1) = f := by unfold mkK; omega
    rw [e1] at h1; rw [e2] at h2
    rw [h1, h2, better_new ht hs' ho ho2 (by simp only; omega)]
    exact better_low (t := t) (s := s) (by omega) hs (c1_mark t s) (by simp only; omega)
theorem now_one {D : Dk} {j : Int} {x : Sec} (h : D.at j = [x]) : nowI D j = x := by unfold nowI; rw [h]; rfl
/-- A region that can be opened. -/
structure Can (D : Dk) (f n : Int) (T : Nat) (rs : List (List UInt8)) : Prop where
  fits : Fits D f n rs
  turn : (nwM D f).1.toNat = T
theorem Reg.can {D : Dk} {f n : Int} {t m : Nat} {pre : List (List UInt8)} (h : Reg D f t pre) (hD : D.ok m) (h0 : 0 ≤ f) (hn : f + n ≤ D.S.length) (hl : ((enc pre).length : Int) ≤ 64 * (n - 2)) (hs : n ≤ 100000) (ht0 : 0 < t) (ht : t + 1 < 2 ^ 64) : Can D f n t pre := by
  obtain ⟨o, ho, hw⟩ := h.o
  obtain ⟨e1, e2, e3⟩ := nw_of (by omega) (nw_weak (now_one h.m) (now_one ho) hw ht0 (by omega) (by omega))
  exact ⟨⟨e1, e3, hl, fun q j hj hq => h.h.now hD h0 (by omega) hj hq⟩, e2⟩
theorem Reg.restart {D : Dk} {f : Int} {t m : Nat} {pre : List (List UInt8)} (h : Reg D f t pre) (hD : D.ok m) (h0 : 0 ≤ f) (hn : f + 2 ≤ D.S.length) (ts : List Torn) : Reg (D.restart ts) f t pre := by
  have b1 := mkK_bd f t
  have b2 := mkK_bd f (t + 1)
  obtain ⟨o, ho, hw⟩ := h.o
  exact ⟨restart_one ts (by omega) (by omega) h.m, ⟨o, restart_one ts (by omega) (by omega) ho, hw⟩, h.h.restart hD h0 ts⟩
theorem Pen.restart {D : Dk} {f n : Int} {t m : Nat} {pre new : List (List UInt8)} (h : Pen D f t pre new) (hD : D.ok m) (hm : 1 ≤ m) (h0 : 0 ≤ f) (hn : f + n ≤ D.S.length) (hn4 : 4 ≤ n) (hl : ((enc pre).length : Int) ≤ 64 * (n - 2)) (hl2 : ((enc new).length : Int) ≤ 64 * (n - 2)) (hs : n ≤ 100000) (ht0 : 0 < t) (ht : t + 2 < 2 ^ 64) (ts : List Torn) :
    Can (D.restart ts) f n t pre ∨ Can (D.restart ts) f n (t + 1) new := by
  have b1 := mkK_bd f t
  have b2 := mkK_bd f (t + 1)
  obtain ⟨o, ho, hw⟩ := h.o
  have hR := hD.restart hm ts
  have hlen := restart_len D ts
  have g1 := restart_one ts (by omega) (by omega) h.m
  have hpre : ∀ q j : Nat, j < 64 → 64 * q + j < (enc pre).length → (nowI (D.restart ts) (f + 2 + q))[j]? = (enc pre)[64 * q + j]? := fun q j hj hq => (h.h.restart hD h0 ts).now hR h0 (by omega) hj hq
  have hnew : ∀ q j : Nat, j < 64 → 64 * q + j < (enc new).length → (nowI (D.restart ts) (f + 2 + q))[j]? = (enc new)[64 * q + j]? := fun q j hj hq => (h.h2.restart hD h0 ts).now hR h0 (by omega) hj hq
  have g2 := restart_at' ts (D := D) (j := mkK f (t + 1)) (by omega) (by omega)
  rw [ho] at g2
  obtain ⟨k, hk⟩ := left_two hw.1 (sec_len (markB (t + 1) (enc new).length)) (firstOf ts (mkK f (t + 1)).toNat)
  change left [o, markS (t + 1) (enc new).length] _ = (markS (t + 1) (enc new).length).take k ++ o.drop k at hk
  rw [hk] at g2
  rcases torn_mark (T := t) (t := t + 1) (s := (enc new).length) (j := k) hw (by omega) (by omega) (by omega) with hx | hx | ⟨hx, hx2⟩
  · obtain ⟨e1, e2, e3⟩ := nw_of (by omega) (nw_weak (now_one g1) (now_one g2) hx ht0 (by omega) (by omega))
    exact .inl ⟨⟨e1, e3, hl, hpre⟩, e2⟩
  · obtain ⟨e1, e2, e3⟩ := nw_of (by omega) (nw_bad (now_one g1) (now_one g2) hx ht0 (by omega) (by omega))
    exact .inl ⟨⟨e1, e3, hl, hpre⟩, e2⟩
  · obtain ⟨e1, e2, e3⟩ := nw_of (by omega) (nw_new (now_one g1) (now_one g2) hx hx2 ht0 (by omega) (by omega) (by omega))
    exact .inr ⟨⟨e1, e3, hl2, hnew⟩, e2⟩
end Go.Wl

namespace Go.Wl
open Go.Wk Go.Dsk

/- 1. LOGS THAT ARE WHAT THEY SHOULD BE -/
def dur (g : Lg) : List (List UInt8) := g.recs.take g.synced.toNat
structure Good (g : Lg) : Prop where
  f0 : 0 ≤ g.f
  f1 : g.f ≤ 10000
  n0 : 4 ≤ g.n
  n1 : g.n ≤ 10000
  data : g.data = enc g.recs
  used : g.used = usedV g.recs
  fit : (usedV g.recs : Int) ≤ 64 * (g.n - 2)
  each : ∀ r ∈ g.recs, r.length ≤ 4000
  s0 : 0 ≤ g.synced
  s1 : g.synced ≤ g.recs.length
  size : g.size.toNat = (enc (dur g)).length
theorem enc_le (rs : List (List UInt8)) : (enc rs).length ≤ usedV rs := by have := enc_len rs; omega
theorem recs_le (rs : List (List UInt8)) : rs.length ≤ usedV rs := by have := enc_len rs; have := enc_ge rs; omega
theorem pre_len {a b : List UInt8} (h : a <+: b) : a.length ≤ b.length := h.length_le
theorem Good.dle {g : Lg} (_h : Good g) : (enc (dur g)).length ≤ (enc g.recs).length := pre_len (enc_take_pre _ _)
theorem Good.ok {g : Lg} (h : Good g) : LgOk g := by
  have a1 := h.f0; have a2 := h.f1; have a3 := h.n0; have a4 := h.n1; have a5 := h.fit; have a6 := h.s0; have a7 := h.s1
  have b1 := enc_le g.recs; have b2 := recs_le g.recs
  have hd : g.data.length = (enc g.recs).length := by rw [h.data]
  refine ⟨a1, by omega, a3, by omega, by omega, by omega, by rw [h.used]; omega, by rw [h.used]; omega, a6, by omega, ?_⟩
  rw [h.size, hd]; exact h.dle
theorem Good.fit2 {g : Lg} (h : Good g) : ((enc g.recs).length : Int) ≤ 64 * (g.n - 2) := by have := enc_le g.recs; have := h.fit; omega
theorem Good.fitd {g : Lg} (h : Good g) : ((enc (dur g)).length : Int) ≤ 64 * (g.n - 2) := by have := h.dle; have := h.fit2; omega

/- 2. A MARK IS PUT -/
theorem put_thm {D : Dk} {f n : Int} {t m : Nat} {pre new : List (List UInt8)} (hD : D.ok m) (hR : Reg D f t pre) (hnew : HeldI D f (enc new)) (hon : D.off = false) (h0 : 0 ≤ f) (h4 : 4 ≤ n) (hn : f + n ≤ D.S.length) (hl : ((enc new).length : Int) ≤ 64 * (n - 2)) (hpl : (enc pre).length < 2 ^ 64) (ht : t < 2 ^ 64) {T S : UInt64} (hT : T.toNat = t + 1) (hS : S.toNat = (enc new).length) :
    Frm D (putD D f T S) f n ∧ (putD D f T S).S.length = D.S.length ∧ (D.calm → (putD D f T S).calm ∧ putE D f T S = 0) ∧ ((putE D f T S = 0 ∧ Reg (putD D f T S) f (t + 1) new) ∨ (putE D f T S = 10 ∧ (putD D f T S).off = true ∧ Pen (putD D f T S) f t pre new)) := by
  have hK : putK f T = mkK f (t + 1) := by rw [putK_mk, hT]
  have hP : putS T S = markS (t + 1) (enc new).length := by unfold putS; rw [hT, hS]
  have b1 := mkK_bd f t
  have b2 := mkK_bd f (t + 1)
  have bne := mkK_ne f t
  have hsl : (putS T S).length = 64 := sec_len _
  have hw : ¬ D.writeE (putK f T) (putS T S) ≠ 0 := fun h => h (writeE_on (by omega) (by omega) hsl hon)
  obtain ⟨D1, hD1⟩ : ∃ D1, D.write (putK f T) (putS T S) = D1 := ⟨_, rfl⟩
  have hlen1 : D1.S.length = D.S.length := by rw [← hD1, write_len]
  have hat : ∀ j : Int, 0 ≤ j → D1.at j = if j = putK f T then D.at (putK f T) ++ [putS T S] else D.at j := fun j hj => by rw [← hD1]; exact at_write (by omega) (by omega) hsl hw hj
  have hF1 : Frm D D1 f n := by rw [← hD1]; exact Frm.write _ (by omega) (by omega) (by omega) (by omega)
  have hdat : ∀ q : Nat, D1.at (f + 2 + q) = D.at (f + 2 + q) := fun q => by rw [hat _ (by omega), if_neg (by omega)]
  obtain ⟨o, ho, hwk⟩ := hR.o
  have hPen : Pen D1 f t pre new := ⟨by rw [hat _ (by omega), if_neg (by omega)]; exact hR.m, ⟨o, by rw [hat _ (by omega), if_pos hK.symm, hK, ho, hP]; rfl, hwk⟩, hR.h.of fun q _ v hv => by rwa [hdat] at hv, hnew.of fun q _ v hv => by rwa [hdat] at hv⟩
  have hput : putD D f T S = D1.flush := by rw [← hD1]; exact if_neg hw
  have hcalm : D.calm → D1.calm := fun h => by rw [← hD1, h.write (by omega) (by omega) hsl]; exact h.add _ _
  rw [hput]
  refine ⟨hF1.trans (Frm.flush _ _ _) hlen1, by rw [flush_len, hlen1], fun h => ?_, ?_⟩
  · have h1 := hcalm h
    refine ⟨by rw [h1.flush]; exact h1.flushed, ?_⟩
    unfold putE; rw [if_neg hw, hD1, if_neg (by rw [h1.flushE]; simp)]
  · cases hoff : D1.off with
    | false =>
      left
      refine ⟨by unfold putE; rw [if_neg hw, hD1, if_neg (by rw [flushE_on hoff]; simp)], ?_, ⟨markS t (enc pre).length, ?_, weak_mark (by omega) ht hpl⟩, ?_⟩
      · rw [at_flush D1 hoff (by omega) (by omega)]
        obtain ⟨o', ho', _⟩ := hPen.o
        unfold nowI; rw [ho']; rfl
      · rw [mkK_two, at_flush D1 hoff (by omega) (by omega)]
        unfold nowI; rw [hPen.m]; rfl
      · refine fun q j hj hq v hv => ?_
        by_cases h1 : f + 2 + (q : Int) < D1.S.length
        · rw [at_flush D1 hoff (by omega) h1, List.mem_singleton] at hv
          rw [hv]
          exact hPen.h2 q j hj hq _ (lst_mem (at_ne (hD1 ▸ hD.write _ _ : D1.ok (m + 1)) (by omega) h1))
        · exfalso; omega
    | true =>
      right
      have e : D1.flush = D1 := by unfold Dk.flush; rw [if_pos hoff]
      rw [e]
      exact ⟨by unfold putE; rw [if_neg hw, hD1, if_pos (by unfold Dk.flushE; rw [if_pos hoff]; decide)], hoff, hPen⟩

/- 3. THE DATA IS WRITTEN -/
theorem wloop_thm {f : Int} {data : List UInt8} (h0 : 0 ≤ f) : ∀ (k q : Nat) {D : Dk} {m : Nat}, D.ok m → f + 2 + q + k ≤ D.S.length →
    (wloop f data D q k).1.S.length = D.S.length ∧ (wloop f data D q k).1.ok (m + k) ∧ (D.calm → (wloop f data D q k).1.calm ∧ (wloop f data D q k).2 = true) ∧ ((wloop f data D q k).2 = false → (wloop f data D q k).1.off = true)
    ∧ (∀ j : Int, 0 ≤ j → (j < f + 2 + q ∨ f + 2 + q + k ≤ j) → (wloop f data D q k).1.at j = D.at j)
    ∧ (∀ i : Nat, q ≤ i → i < q + k → ∀ v ∈ (wloop f data D q k).1.at (f + 2 + i), v ∈ D.at (f + 2 + i) ∨ v = sec (chunkAt data i))
    ∧ ((wloop f data D q k).2 = true → ∀ i : Nat, q ≤ i → i < q + k → nowI (wloop f data D q k).1 (f + 2 + i) = sec (chunkAt data i))
  | 0, q, D, m, hD, _ => ⟨rfl, hD, fun h => ⟨h, rfl⟩, fun h => (by cases h), fun _ _ _ => rfl, fun i h1 h2 => by omega, fun _ i h1 h2 => by omega⟩
  | k + 1, q, D, m, hD, hl => by
    have hsl : (sec (chunkAt data q)).length = 64 := sec_len _
    by_cases hw : D.writeE (f + 2 + q) (sec (chunkAt data q)) ≠ 0
    · have e : wloop f data D q (k + 1) = (D, false) := by rw [wloop, if_pos hw]
      have hoff := writeE_off (by omega) (by omega) hsl hw
      rw [e]
      exact ⟨rfl, hD.mono (by omega), fun h => absurd (h.writeE (by omega) (by omega) hsl) hw, fun _ => hoff, fun _ _ _ => rfl, fun i _ _ v hv => .inl hv, fun h => (by cases h)⟩
    · have e : wloop f data D q (k + 1) = wloop f data (D.write (f + 2 + q) (sec (chunkAt data q))) (q + 1) k := by rw [wloop, if_neg hw]
      obtain ⟨D1, hD1⟩ : ∃ D1, D.write (f + 2 + q) (sec (chunkAt data q)) = D1 := ⟨_, rfl⟩
      have hlen1 : D1.S.length = D.S.length := by rw [← hD1, write_len]
      have hat : ∀ j : Int, 0 ≤ j → D1.at j = if j = f + 2 + q then D.at (f + 2 + q) ++ [sec (chunkAt data q)] else D.at j := fun j hj => by rw [← hD1]; exact at_write (by omega) (by omega) hsl hw hj
      obtain ⟨a1, a2, a3, a4, a5, a6, a7⟩ := wloop_thm (f := f) (data := data) h0 k (q + 1) (hD1 ▸ hD.write _ _ : D1.ok (m + 1)) (by omega)
      rw [e, hD1]
      refine ⟨a1.trans hlen1, a2.mono (by omega), fun h => a3 (by rw [← hD1, h.write (by omega) (by omega) hsl]; exact h.add _ _), a4, fun j hj hj2 => ?_, fun i h1 h2 v hv => ?_, fun h i h1 h2 => ?_⟩
      · rw [a5 j hj (by omega), hat j hj, if_neg (by omega)]
      · by_cases hi : i = q
        · subst hi
          rw [a5 _ (by omega) (by omega), hat _ (by omega), if_pos rfl, List.mem_append, List.mem_singleton] at hv
          exact hv
        · rcases a6 i (by omega) (by omega) v hv with hv | hv
          · rw [hat _ (by omega), if_neg (by omega)] at hv; exact .inl hv
          · exact .inr hv
      · by_cases hi : i = q
        · subst hi
          unfold nowI
          rw [a5 _ (by omega) (by omega), hat _ (by omega), if_pos rfl, lst_snoc]
        · exact a7 h i (by omega) (by omega)
theorem sec_chunk {data : List UInt8} {q j : Nat} (hj : j < 64) (hl : 64 * q + j < data.length) : (sec (chunkAt data q))[j]? = data[64 * q + j]? := by
  have hc : j < (chunkAt data q).length := by rw [chunkAt, List.length_take, List.length_drop]; omega
  rw [sec, List.getElem?_take_of_lt hj, List.getElem?_append_left hc, chunkAt, List.getElem?_take_of_lt hj, List.getElem?_drop]

/- 4. SYNC -/
structure Synced (g : Lg) (D : Dk) (r : Lg × Dk × Int) : Prop where
  frm : Frm D r.2.1 g.f g.n
  len : r.2.1.S.length = D.S.length
  calm : D.calm → r.2.1.calm ∧ r.2.2 = 0
  res : (r.2.2 = 0 ∧ Good r.1 ∧ r.1.f = g.f ∧ r.1.n = g.n ∧ r.1.recs = g.recs ∧ r.1.synced = g.recs.length ∧ g.turn.toNat ≤ r.1.turn.toNat ∧ r.1.turn.toNat ≤ g.turn.toNat + 1 ∧ Reg r.2.1 g.f r.1.turn.toNat g.recs)
    ∨ (r.2.2 = 10 ∧ r.1 = g ∧ r.2.1.off = true ∧ (Reg r.2.1 g.f g.turn.toNat (dur g) ∨ Pen r.2.1 g.f g.turn.toNat (dur g) g.recs))
theorem dur_all {g : Lg} (h : g.synced = g.recs.length) : dur g = g.recs := by unfold dur; rw [h]; exact List.take_of_length_le (by omega)
theorem wcnt_le {g : Lg} (hg : Good g) : (wcnt g : Int) + g.size.toNat / 64 ≤ g.n - 2 ∨ wcnt g = 0 := by
  have h1 := hg.fit2
  have h2 : g.data.length = (enc g.recs).length := by rw [hg.data]
  unfold wcnt; omega
theorem sync_thm {g : Lg} {D : Dk} {m : Nat} (hg : Good g) (hD : D.ok m) (hon : D.off = false) (hn : g.f + g.n ≤ D.S.length) (hR : Reg D g.f g.turn.toNat (dur g)) (ht : g.turn.toNat + 2 < 2 ^ 64) : Synced g D (syncR g D) := by
  have f0 := hg.f0; have n0 := hg.n0; have n1 := hg.n1
  by_cases hs : g.synced = g.recs.length
  · rw [syncR_none hon hs]
    exact ⟨Frm.refl _ _ _, rfl, fun h => ⟨h, rfl⟩, .inl ⟨rfl, hg, rfl, rfl, rfl, hs, Nat.le_refl _, Nat.le_succ _, by have := hR; rwa [dur_all hs] at this⟩⟩
  have hdl : g.data.length = (enc g.recs).length := by rw [hg.data]
  have hfit := hg.fit2
  have hsz := hg.size
  have hdle := hg.dle
  have hq0 : g.size.toNat / 64 + wcnt g = (g.data.length + 63) / 64 ∨ wcnt g = 0 ∧ (g.data.length + 63) / 64 ≤ g.size.toNat / 64 := by unfold wcnt; omega
  obtain ⟨a1, a2, a3, a4, a5, a6, a7⟩ := wloop_thm (f := g.f) (data := g.data) f0 (wcnt g) (g.size.toNat / 64) hD (by omega)
  change (wl g D).1.S.length = _ at a1
  change (wl g D).1.ok _ at a2
  change D.calm → (wl g D).1.calm ∧ (wl g D).2 = true at a3
  change (wl g D).2 = false → (wl g D).1.off = true at a4
  have a5 : ∀ j : Int, 0 ≤ j → (j < g.f + 2 + (g.size.toNat / 64 : Nat) ∨ g.f + 2 + (g.size.toNat / 64 : Nat) + wcnt g ≤ j) → (wl g D).1.at j = D.at j := a5
  have a6 : ∀ i : Nat, g.size.toNat / 64 ≤ i → i < g.size.toNat / 64 + wcnt g → ∀ v ∈ (wl g D).1.at (g.f + 2 + i), v ∈ D.at (g.f + 2 + i) ∨ v = sec (chunkAt g.data i) := a6
  have a7 : (wl g D).2 = true → ∀ i : Nat, g.size.toNat / 64 ≤ i → i < g.size.toNat / 64 + wcnt g → nowI (wl g D).1 (g.f + 2 + i) = sec (chunkAt g.data i) := a7
  obtain ⟨E, b, hE⟩ : ∃ E b, wl g D = (E, b) := ⟨_, _, rfl⟩
  rw [hE] at a1 a2 a3 a4 a5 a6 a7
  simp only at a1 a2 a3 a4 a5 a6 a7
  have hpre : enc (dur g) <+: g.data := by rw [hg.data]; exact enc_take_pre _ _
  have hFE : Frm D E g.f g.n := fun j h0 hj => .inl (a5 j h0 (by omega))
  have bk1 := mkK_bd g.f g.turn.toNat
  have bk2 := mkK_bd g.f (g.turn.toNat + 1)
  have hRE : Reg E g.f g.turn.toNat (dur g) := by
    obtain ⟨o, ho, hw⟩ := hR.o
    refine ⟨by rw [a5 _ (by omega) (by omega)]; exact hR.m, ⟨o, by rw [a5 _ (by omega) (by omega)]; exact ho, hw⟩, fun q j hj hq v hv => ?_⟩
    by_cases hi : g.size.toNat / 64 ≤ q ∧ q < g.size.toNat / 64 + wcnt g
    · rcases a6 q hi.1 hi.2 v hv with hv | hv
      · exact hR.h q j hj hq v hv
      · obtain ⟨r, hr⟩ := hpre
        rw [hv, sec_chunk hj (by omega), ← hr, List.getElem?_append_left hq]
    · rw [a5 _ (by omega) (by omega)] at hv
      exact hR.h q j hj hq v hv
  cases b with
  | false =>
    have hoff := a4 rfl
    rw [syncR_w hon hs hE]
    exact ⟨hFE, a1, fun h => absurd (a3 h).2 (by decide), .inr ⟨rfl, rfl, hoff, .inl hRE⟩⟩
  | true =>
    by_cases hfl : E.flushE ≠ 0
    · have hoff := flushE_offz hfl
      have e : E.flush = E := flushE_ne hfl
      rw [syncR_f hon hs hE hfl, e]
      exact ⟨hFE, a1, fun h => absurd (a3 h).1.flushE hfl, .inr ⟨rfl, rfl, hoff, .inl hRE⟩⟩
    have hEon : E.off = false := by
      cases hb : E.off with
      | false => rfl
      | true => exact absurd (by unfold Dk.flushE; rw [if_pos hb]; decide) hfl
    have hlenF : E.flush.S.length = D.S.length := by rw [flush_len, a1]
    have hRF : Reg E.flush g.f g.turn.toNat (dur g) := by
      obtain ⟨o, ho, hw⟩ := hRE.o
      refine ⟨?_, ⟨o, ?_, hw⟩, fun q j hj hq v hv => ?_⟩
      · rw [at_flush E hEon (by omega) (by omega)]; unfold nowI; rw [hRE.m]; rfl
      · rw [at_flush E hEon (by omega) (by omega)]; unfold nowI; rw [ho]; rfl
      · rw [at_flush E hEon (by omega) (by omega), List.mem_singleton] at hv
        rw [hv]; exact hRE.h q j hj hq _ (lst_mem (at_ne a2 (by omega) (by omega)))
    have hHF : HeldI E.flush g.f (enc g.recs) := fun q j hj hq v hv => by
      rw [at_flush E hEon (by omega) (by omega), List.mem_singleton] at hv
      by_cases hi : g.size.toNat / 64 ≤ q
      · rw [hv, a7 rfl q hi (by omega), sec_chunk hj (by omega), hg.data]
      · obtain ⟨r, hr⟩ := hpre
        have hlt : 64 * q + j < (enc (dur g)).length := by omega
        rw [hv, show nowI E (g.f + 2 + q) = lst (E.at (g.f + 2 + q)) from rfl, hRE.h q j hj hlt _ (lst_mem (at_ne a2 (by omega) (by omega))), ← hg.data, ← hr, List.getElem?_append_left hlt]
    have hFF : Frm D E.flush g.f g.n := hFE.trans (Frm.flush _ _ _) a1
    by_cases hEc : E.flush.off = false
    · have hT : (syT g).toNat = g.turn.toNat + 1 := by unfold syT; rw [UInt64.toNat_add]; simp; omega
      have hS : (syS g).toNat = (enc g.recs).length := by unfold syS; rw [UInt64.toNat_ofNat', hdl]; omega
      obtain ⟨p1, p2, p3, p4⟩ := put_thm (a2.flush (by have := (a2.all _ (mem_of (at_get (D := E) (j := g.f) f0 (by omega)))); have := List.length_pos_iff.2 this.1; omega)) hRF hHF hEc f0 n0 (by omega) hfit (by omega) (by omega) hT hS
      have hFP := hFF.trans p1 hlenF
      rcases p4 with ⟨p4, p5⟩ | ⟨p4, p5, p6⟩
      · rw [syncR_ok hon hs hE hfl p4]
        refine ⟨hFP, p2.trans hlenF, fun h => ⟨(p3 (by rw [(a3 h).1.flush]; exact (a3 h).1.flushed)).1, rfl⟩, .inl ⟨rfl, ?_, rfl, rfl, rfl, rfl, by show g.turn.toNat ≤ (syT g).toNat; omega, by show (syT g).toNat ≤ g.turn.toNat + 1; omega, by show Reg _ g.f (syT g).toNat g.recs; rw [hT]; exact p5⟩⟩
        refine ⟨hg.f0, hg.f1, hg.n0, hg.n1, hg.data, hg.used, hg.fit, hg.each, by show (0 : Int) ≤ g.recs.length; omega, Int.le_refl _, ?_⟩
        show (syS g).toNat = (enc (g.recs.take ((g.recs.length : Int)).toNat)).length
        rw [hS, List.take_of_length_le (by omega)]
      · rw [syncR_p hon hs hE hfl (by rw [p4]; decide)]
        exact ⟨hFP, p2.trans hlenF, fun h => absurd (p3 (by rw [(a3 h).1.flush]; exact (a3 h).1.flushed)).2 (by rw [p4]; decide), .inr ⟨rfl, rfl, p5, .inr p6⟩⟩
    · have hoff : E.flush.off = true := by simpa using hEc
      have hne : E.flush.writeE (putK g.f (syT g)) (putS (syT g) (syS g)) ≠ 0 := by
        have hk := putK_bd (f := g.f) (syT g)
        unfold Dk.writeE; rw [if_pos (show (putS (syT g) (syS g)).length = 64 from sec_len _)]
        intro h
        have := (Dk.errOf_zero.1 h).2.2
        rw [hoff] at this; cases this
      obtain ⟨q1, q2⟩ := put_err1 hne
      rw [syncR_p hon hs hE hfl (by rw [q2]; decide), q1]
      refine ⟨hFF, hlenF, fun h => ?_, .inr ⟨rfl, rfl, hoff, .inl hRF⟩⟩
      have := (a3 h).1.flush
      rw [this] at hoff
      rw [(a3 h).1.flushed.off] at hoff; cases hoff
theorem syncR_dok {g : Lg} {D : Dk} {m : Nat} (hg : Good g) (hD : D.ok m) (hm : 1 ≤ m) (hn : g.f + g.n ≤ D.S.length) : (syncR g D).2.1.ok (m + g.n.toNat + 2) := by
  have f0 := hg.f0; have n0 := hg.n0
  have hw : (wl g D).1.ok (m + wcnt g) := by
    have hdl : g.data.length = (enc g.recs).length := by rw [hg.data]
    have hfit := hg.fit2
    have hsz := hg.size
    have hdle := hg.dle
    exact (wloop_thm (f := g.f) (data := g.data) f0 (wcnt g) (g.size.toNat / 64) hD (by unfold wcnt; omega)).2.1
  have hc : wcnt g ≤ g.n.toNat := by have := wcnt_le hg; omega
  have hf : (wl g D).1.flush.ok (m + wcnt g) := hw.flush (by omega)
  unfold syncR
  split
  · exact hD.mono (by omega)
  split
  · exact hD.mono (by omega)
  split
  · exact hw.mono (by omega)
  split
  · exact hf.mono (by omega)
  split
  · exact (putD_ok hf _ _ _).mono (by omega)
  · exact (putD_ok hf _ _ _).mono (by omega)

/- 5. RESET -/
theorem enc_zero : (enc []).length = 0 := rfl
structure Resetted (g : Lg) (D : Dk) (r : Lg) (E : Dk) (e : Int) : Prop where
  frm : Frm D E g.f g.n
  len : E.S.length = D.S.length
  calm : D.calm → E.calm ∧ e = 0
  res : (e = 0 ∧ Good r ∧ r.f = g.f ∧ r.n = g.n ∧ r.recs = [] ∧ r.synced = 0 ∧ r.turn.toNat = g.turn.toNat + 1 ∧ Reg E g.f (g.turn.toNat + 1) []) ∨ (e = 10 ∧ r = g ∧ E.off = true ∧ Pen E g.f g.turn.toNat (dur g) [])
theorem reset_thm {g : Lg} {D : Dk} {m : Nat} (hg : Good g) (hD : D.ok m) (hon : D.off = false) (hn : g.f + g.n ≤ D.S.length) (hR : Reg D g.f g.turn.toNat (dur g)) (ht : g.turn.toNat + 2 < 2 ^ 64) :
    Resetted g D (resetL g D) (putD D g.f (g.turn + 1) 0) (putE D g.f (g.turn + 1) 0) := by
  have f0 := hg.f0; have n0 := hg.n0; have n1 := hg.n1; have hfd := hg.fitd
  have hT : (g.turn + 1).toNat = g.turn.toNat + 1 := by rw [UInt64.toNat_add]; simp; omega
  obtain ⟨p1, p2, p3, p4⟩ := put_thm (new := []) hD hR (HeldI.nil _ _) hon f0 n0 hn (by rw [enc_zero]; omega) (by omega) (by omega) hT (S := 0) rfl
  refine ⟨p1, p2, p3, ?_⟩
  rcases p4 with ⟨p4, p5⟩ | ⟨p4, p5, p6⟩
  · left
    rw [resetL_ok p4]
    exact ⟨p4, ⟨hg.f0, hg.f1, hg.n0, hg.n1, rfl, rfl, by show ((0 : Nat) : Int) ≤ 64 * (g.n - 2); omega, fun r hr => (by cases hr), Int.le_refl _, Int.le_refl _, rfl⟩, rfl, rfl, rfl, rfl, hT, p5⟩
  · right
    rw [resetL_err (by rw [p4]; decide)]
    exact ⟨p4, rfl, p5, p6⟩

/- 6. APPEND -/
def roomR (n : Int) (rs : List (List UInt8)) : Int := max (-1) (min 4000 (64 * (n - 2) - usedV rs - 12))
def appR (n : Int) (rs : List (List UInt8)) (rec : List UInt8) : Int := if 4000 < (rec.length : Int) then 2 else if roomR n rs < rec.length then 9 else 0
theorem room_eq {g : Lg} (hg : Good g) : roomV g = roomR g.n g.recs := by unfold roomV roomR; rw [hg.used]
theorem app_eq {g : Lg} {D : Dk} {rec : List UInt8} (hg : Good g) (hon : D.off = false) : appE g D rec = appR g.n g.recs rec := by
  unfold appE appR; rw [room_eq hg, if_neg (c := D.off = true) (by rw [hon]; decide)]
theorem appR_cases (n : Int) (rs : List (List UInt8)) (rec : List UInt8) : appR n rs rec = 0 ∨ appR n rs rec = 2 ∨ appR n rs rec = 9 := by
  unfold appR; split
  · exact .inr (.inl rfl)
  · split
    · exact .inr (.inr rfl)
    · exact .inl rfl
theorem appR_zero {n : Int} {rs : List (List UInt8)} {rec : List UInt8} (h : appR n rs rec = 0) : rec.length ≤ 4000 ∧ (rec.length : Int) ≤ roomR n rs := by
  unfold appR at h
  split at h
  · cases h
  · split at h
    · cases h
    · omega
theorem room_pos {n : Int} {rs : List (List UInt8)} {k : Nat} (h : (k : Int) ≤ roomR n rs) : (usedV rs : Int) + k + 12 ≤ 64 * (n - 2) := by unfold roomR at h; omega
theorem app_thm {g : Lg} {D : Dk} {rec : List UInt8} (hg : Good g) (h : appE g D rec = 0) (hon : D.off = false) : Good (appL g D rec) ∧ (appL g D rec).f = g.f ∧ (appL g D rec).n = g.n ∧ (appL g D rec).recs = g.recs ++ [rec] ∧ (appL g D rec).synced = g.synced ∧ (appL g D rec).turn = g.turn ∧ dur (appL g D rec) = dur g := by
  have h2 := app_eq (rec := rec) hg hon
  rw [h] at h2
  obtain ⟨k1, k2⟩ := appR_zero h2.symm
  have k3 := room_pos k2
  have s0 := hg.s0
  have s1 := hg.s1
  have hdur : (g.recs ++ [rec]).take g.synced.toNat = dur g := List.take_append_of_le_length (by omega)
  rw [appL_ok h]
  refine ⟨⟨hg.f0, hg.f1, hg.n0, hg.n1, ?_, ?_, ?_, ?_, hg.s0, ?_, ?_⟩, rfl, rfl, rfl, rfl, rfl, hdur⟩
  · show g.data ++ leb 4 rec.length ++ rec = enc (g.recs ++ [rec])
    rw [enc_snoc, hg.data, List.append_assoc]
  · show g.used + (rec.length + 12) = ((usedV (g.recs ++ [rec]) : Nat) : Int)
    rw [used_snoc, hg.used]; omega
  · show ((usedV (g.recs ++ [rec]) : Nat) : Int) ≤ _
    rw [used_snoc]; show _ ≤ 64 * (g.n - 2); omega
  · intro r hr
    rcases List.mem_append.1 hr with hr | hr
    · exact hg.each r hr
    · rw [List.mem_singleton] at hr; rw [hr]; exact k1
  · show g.synced ≤ ((g.recs ++ [rec]).length : Nat)
    rw [List.length_append, List.length_singleton]; omega
  · show g.size.toNat = (enc ((g.recs ++ [rec]).take g.synced.toNat)).length
    rw [hdur]; exact hg.size

/- 7. FORMAT -/
theorem put_flat {D : Dk} (h : D.calm) {f : Int} (hf : 0 ≤ f) (hl : f + 2 ≤ D.S.length) (t s : UInt64) {j : Int} (h0 : 0 ≤ j) (h1 : j < D.S.length) : (putD D f t s).at j = [nowI (putD D f t s) j] := by
  obtain ⟨k0, k1⟩ := putK_bd (f := f) t
  have hw := h.writeE (k := putK f t) (s := putS t s) (by omega) (by omega) (sec_len _)
  have e : putD D f t s = (D.write (putK f t) (putS t s)).flush := if_neg (by rw [hw]; simp)
  have hc : (D.write (putK f t) (putS t s)).calm := by rw [h.write (by omega) (by omega) (show (putS t s).length = 64 from sec_len _)]; exact h.add _ _
  have hlen := write_len D (putK f t) (putS t s)
  rw [e, at_flush _ hc.off h0 (by omega)]
  unfold nowI
  rw [at_flush _ hc.off h0 (by omega)]; rfl
theorem fmt_flat {D : Dk} (h : D.calm) {f n : Int} (hv : checkV D f n = 0) {j : Int} (h0 : 0 ≤ j) (h1 : j < D.S.length) : (fmtR D f n).1.at j = [nowI (fmtR D f n).1 j] := by
  obtain ⟨h4, g0, g1, g2, _⟩ := checkV_zero.1 hv
  obtain ⟨N, rfl⟩ := Int.eq_ofNat_of_zero_le (show 0 ≤ n by omega)
  obtain ⟨E, e1, t1⟩ := zloop_calm g0 N 0 h (by omega)
  obtain ⟨e2, t2⟩ := calm_flush t1.calm
  rw [fmtR_p hv e1 (by rw [e2]; simp)]
  have := t1.len; have := t2.len
  exact put_flat t2.calm g0 (by omega) 1 0 h0 (by omega)
theorem fmt_frm {D : Dk} (h : D.calm) {f n : Int} (hv : checkV D f n = 0) : Frm D (fmtR D f n).1 f n := fun j h0 hj => by
  obtain ⟨h4, g0, g1, g2, _⟩ := checkV_zero.1 hv
  obtain ⟨_, T⟩ := fmt_calm h hv
  by_cases h1 : j < D.S.length
  · right
    refine ⟨h1, ?_⟩
    rw [fmt_flat h hv h0 h1, T.now j h0 h1, if_neg (by omega), if_neg (by omega)]; rfl
  · left
    rw [at_out (D := D) (by omega), at_out (D := (fmtR D f n).1) (by rw [T.len]; omega)]
theorem fmt_reg {D : Dk} (h : D.calm) {f n : Int} (hv : checkV D f n = 0) : Reg (fmtR D f n).1 f 1 [] := by
  obtain ⟨h4, g0, g1, g2, _⟩ := checkV_zero.1 hv
  obtain ⟨_, T⟩ := fmt_calm h hv
  refine ⟨?_, ⟨zsec, ?_, weak_zero (by decide)⟩, HeldI.nil _ _⟩
  · have e : mkK f 1 = f + 1 := by unfold mkK; omega
    rw [e, fmt_flat h hv (by omega) (by omega), T.now _ (by omega) (by omega), if_pos rfl]; rfl
  · have e : mkK f (1 + 1) = f := by unfold mkK; omega
    rw [e, fmt_flat h hv (by omega) (by omega), T.now _ (by omega) (by omega), if_neg (by omega), if_pos (by omega)]
theorem lg0_good {f : Int} {n : Int} (h0 : 0 ≤ f) (h1 : f ≤ 10000) (h2 : 4 ≤ n) (h3 : n ≤ 10000) : Good (lg0 f n 1 0) :=
  ⟨h0, h1, h2, h3, rfl, rfl, by show ((0 : Nat) : Int) ≤ 64 * (n - 2); omega, fun r hr => (by cases hr), Int.le_refl _, Int.le_refl _, rfl⟩
theorem lgO_good {D : Dk} {f n : Int} {rs : List (List UInt8)} (h0 : 0 ≤ f) (h1 : f ≤ 10000) (h2 : 4 ≤ n) (h3 : n ≤ 10000) (hF : Fits D f n rs) (hu : (usedV rs : Int) ≤ 64 * (n - 2)) (he : ∀ r ∈ rs, r.length ≤ 4000) : Good (lgO D f n rs) :=
  ⟨h0, h1, h2, h3, rfl, rfl, hu, he, by show (0 : Int) ≤ rs.length; omega, Int.le_refl _, by show (nwM D f).2.toNat = (enc (rs.take ((rs.length : Int)).toNat)).length; rw [List.take_of_length_le (by omega)]; exact hF.z⟩
end Go.Wl

namespace Go.Wl
open Go.Wk Go.Dsk

/-- A log and its disk, after any acts; rst: a Reset was interrupted. -/
structure Pst (f n : Int) (g : Lg) (D : Dk) (T M : Nat) (rst : Bool) : Prop where
  good : Good g
  ef : g.f = f
  en : g.n = n
  ok : D.ok M
  m1 : 1 ≤ M
  len : f + n ≤ D.S.length
  t0 : 0 < g.turn.toNat
  tT : g.turn.toNat ≤ T
  st : (rst = false ∧ Reg D f g.turn.toNat (dur g)) ∨ (D.off = true ∧ rst = false ∧ Pen D f g.turn.toNat (dur g) g.recs) ∨ (D.off = true ∧ rst = true ∧ Pen D f g.turn.toNat (dur g) [])
variable {f n : Int} {g : Lg} {D : Dk} {T M : Nat} {rst : Bool}
theorem Pst.on (h : Pst f n g D T M rst) (hon : D.off = false) : rst = false ∧ Reg D f g.turn.toNat (dur g) := by
  rcases h.st with h | ⟨h, _⟩ | ⟨h, _⟩
  · exact h
  · rw [hon] at h; cases h
  · rw [hon] at h; cases h
theorem Pst.mono (h : Pst f n g D T M rst) {T' M' : Nat} (hT : T ≤ T') (hM : M ≤ M') : Pst f n g D T' M' rst :=
  ⟨h.good, h.ef, h.en, h.ok.mono hM, by have := h.m1; omega, h.len, h.t0, by have := h.tT; omega, h.st⟩
theorem Pst.nat (h : Pst f n g D T M rst) : 0 ≤ f ∧ f ≤ 10000 ∧ 4 ≤ n ∧ n ≤ 10000 := by
  have h1 := h.good.f0; have h2 := h.good.f1; have h3 := h.good.n0; have h4 := h.good.n1
  rw [h.ef] at h1 h2; rw [h.en] at h3 h4; exact ⟨h1, h2, h3, h4⟩
theorem Pst.chk (h : Pst f n g D T M rst) (hon : D.off = false) : checkV D f n = 0 := by
  obtain ⟨a, b, c, d⟩ := h.nat
  have e := h.len
  exact checkV_zero.2 ⟨c, a, by omega, by omega, hon⟩
/-- Formatted, while the power stays on. -/
theorem Pst.format {E : Dk} {f n : Int} {M : Nat} (hE : E.ok M) (hm : 1 ≤ M) (hc : E.calm) (hv : checkV E f n = 0) (h1 : f ≤ 10000) (h3 : n ≤ 10000) : Pst f n (lg0 f n 1 0) (fmtR E f n).1 1 (M + n.toNat + 1) false := by
  obtain ⟨h4, g0, g1, g2, _⟩ := checkV_zero.1 hv
  refine ⟨lg0_good g0 h1 h4 h3, rfl, rfl, ?_, by omega, by rw [(fmt_calm hc hv).2.len]; omega, by show 0 < (1 : UInt64).toNat; decide, by show (1 : UInt64).toNat ≤ 1; decide, .inl ⟨rfl, fmt_reg hc hv⟩⟩
  have hz : ∀ (k i m : Nat) {D : Dk}, D.ok m → (zloop f D i k).1.ok (m + k) := by
    intro k
    induction k with
    | zero => exact fun _ _ _ h => h
    | succ k ih =>
      intro i m D h
      rw [zloop]; split
      · exact h.mono (by omega)
      · rw [show m + (k + 1) = (m + 1) + k from by omega]; exact ih (i + 1) (m + 1) (h.write _ _)
  have hz' := hz n.toNat 0 M hE
  unfold fmtR
  split
  · exact hE.mono (by omega)
  split
  · exact hz'.mono (by omega)
  split
  · exact (hz'.flush (by omega)).mono (by omega)
  · exact putD_ok (hz'.flush (by omega)) _ _ _
theorem Pst.sync (h : Pst f n g D T M rst) (hon : D.off = false) (hT : T + 2 < 2 ^ 64) : Pst f n (syncR g D).1 (syncR g D).2.1 (T + 1) (M + n.toNat + 2) false ∧ Frm D (syncR g D).2.1 f n ∧ (syncR g D).2.1.S.length = D.S.length ∧ (D.calm → (syncR g D).2.1.calm ∧ (syncR g D).2.2 = 0)
    ∧ (syncR g D).1.recs = g.recs ∧ (((syncR g D).2.2 = 0 ∧ (syncR g D).1.synced = g.recs.length) ∨ ((syncR g D).2.2 = 10 ∧ (syncR g D).2.1.off = true ∧ (syncR g D).1 = g)) := by
  have htT := h.tT; have ht0 := h.t0; have hlen := h.len
  obtain ⟨_, hR⟩ := h.on hon
  have hs := sync_thm h.good h.ok hon (by rw [h.ef, h.en]; exact hlen) (by rw [h.ef]; exact hR) (by omega)
  have hdk := syncR_dok h.good h.ok h.m1 (by rw [h.ef, h.en]; exact hlen)
  rw [h.en] at hdk
  have hF := hs.frm
  have hl := hs.len
  rw [h.ef, h.en] at hF
  rcases hs.res with ⟨r1, r2, r3, r4, r5, r6, r7, r8, r9⟩ | ⟨r1, r2, r3, r4⟩
  · refine ⟨⟨r2, r3.trans h.ef, r4.trans h.en, hdk, by omega, by rw [hl]; exact hlen, by omega, by omega, .inl ⟨rfl, ?_⟩⟩, hF, hl, hs.calm, r5, .inl ⟨r1, r6⟩⟩
    rw [h.ef] at r9
    rwa [dur_all (by rw [r5]; exact r6), r5]
  · refine ⟨?_, hF, hl, hs.calm, by rw [r2], .inr ⟨r1, r3, r2⟩⟩
    rw [r2]
    rw [h.ef] at r4
    refine ⟨h.good, h.ef, h.en, hdk, by omega, by rw [hl]; exact hlen, ht0, by omega, ?_⟩
    rcases r4 with r4 | r4
    · exact .inl ⟨rfl, r4⟩
    · exact .inr (.inl ⟨r3, rfl, r4⟩)
theorem Pst.reset (h : Pst f n g D T M rst) (hon : D.off = false) (hT : T + 2 < 2 ^ 64) : ∃ r : Bool, Pst f n (resetL g D) (putD D g.f (g.turn + 1) 0) (T + 1) (M + 1) r ∧ Frm D (putD D g.f (g.turn + 1) 0) f n ∧ (putD D g.f (g.turn + 1) 0).S.length = D.S.length ∧ (D.calm → (putD D g.f (g.turn + 1) 0).calm ∧ putE D g.f (g.turn + 1) 0 = 0)
    ∧ ((putE D g.f (g.turn + 1) 0 = 0 ∧ r = false ∧ (resetL g D).recs = [] ∧ (resetL g D).synced = 0) ∨ (putE D g.f (g.turn + 1) 0 = 10 ∧ r = true ∧ (putD D g.f (g.turn + 1) 0).off = true ∧ resetL g D = g)) := by
  have htT := h.tT; have ht0 := h.t0; have hlen := h.len; have hm1 := h.m1
  obtain ⟨_, hR⟩ := h.on hon
  have hs := reset_thm h.good h.ok hon (by rw [h.ef, h.en]; exact hlen) (by rw [h.ef]; exact hR) (by omega)
  have hF := hs.frm
  have hl := hs.len
  have hdk : (putD D g.f (g.turn + 1) 0).ok (M + 1) := putD_ok h.ok _ _ _
  rw [h.ef, h.en] at hF
  have hc := hs.calm
  rcases hs.res with ⟨r1, r2, r3, r4, r5, r6, r7, r8⟩ | ⟨r1, r2, r3, r4⟩
  · refine ⟨false, ⟨r2, r3.trans h.ef, r4.trans h.en, hdk, by omega, by rw [hl]; exact hlen, by omega, by omega, .inl ⟨rfl, ?_⟩⟩, ?_, hl, hc, .inl ⟨r1, rfl, r5, r6⟩⟩
    · rw [h.ef] at r8 ⊢
      have e : dur (resetL g D) = [] := by unfold dur; rw [r5, List.take_nil]
      rwa [e, r7]
    · rw [h.ef]; exact hF
  · refine ⟨true, ?_, ?_, hl, hc, .inr ⟨r1, rfl, r3, r2⟩⟩
    · rw [h.ef] at r3 r4 hdk hl ⊢
      rw [r2]
      exact ⟨h.good, h.ef, h.en, hdk, by omega, by rw [hl]; exact hlen, ht0, by omega, .inr (.inr ⟨r3, rfl, r4⟩)⟩
    · rw [h.ef]; exact hF
theorem Pst.app {rec : List UInt8} (h : Pst f n g D T M rst) (hon : D.off = false) (he : appE g D rec = 0) : Pst f n (appL g D rec) D T M false ∧ (appL g D rec).recs = g.recs ++ [rec] ∧ (appL g D rec).synced = g.synced := by
  obtain ⟨a1, a2, a3, a4, a5, a6, a7⟩ := app_thm h.good he hon
  obtain ⟨_, hR⟩ := h.on hon
  exact ⟨⟨a1, a2.trans h.ef, a3.trans h.en, h.ok, h.m1, h.len, by rw [a6]; exact h.t0, by rw [a6]; exact h.tT, .inl ⟨rfl, by rw [a6, a7]; exact hR⟩⟩, a4, a5⟩
theorem HeldI.same {E : Dk} {p : List UInt8} (h : HeldI D f p) (e : ∀ j : Int, E.at j = D.at j) : HeldI E f p := h.of fun q _ v hv => by rwa [e] at hv
theorem Reg.same {E : Dk} {t : Nat} {pre : List (List UInt8)} (h : Reg D f t pre) (e : ∀ j : Int, E.at j = D.at j) : Reg E f t pre := by
  obtain ⟨o, ho, hw⟩ := h.o
  exact ⟨by rw [e]; exact h.m, ⟨o, by rw [e]; exact ho, hw⟩, h.h.same e⟩
theorem Pst.blow (h : Pst f n g D T M rst) {k : Int} (hk : k ≤ 9223372036854775807) : Pst f n g (D.blow k) T M rst := by
  refine ⟨h.good, h.ef, h.en, h.ok.blow hk, h.m1, by rw [blow_S]; exact h.len, h.t0, h.tT, ?_⟩
  rcases h.st with ⟨h1, h2⟩ | ⟨h1, h2, h3⟩ | ⟨h1, h2, h3⟩
  · exact .inl ⟨h1, h2.same fun j => at_blow D k j⟩
  · have e : D.blow k = D := if_pos h1
    rw [e]; exact .inr (.inl ⟨h1, h2, h3⟩)
  · have e : D.blow k = D := if_pos h1
    rw [e]; exact .inr (.inr ⟨h1, h2, h3⟩)
/-- What a log may be after a power failure. -/
def betw (got : List (List UInt8)) (least : Int) (most : List (List UInt8)) : Prop := least ≤ got.length ∧ got.length ≤ most.length ∧ got = most.take got.length
instance (got : List (List UInt8)) (least : Int) (most : List (List UInt8)) : Decidable (betw got least most) := by unfold betw; infer_instance
structure Back (D : Dk) (f n : Int) (g : Lg) (rst : Bool) (rs : List (List UInt8)) : Prop where
  fits : Fits D f n rs
  used : (usedV rs : Int) ≤ 64 * (n - 2)
  each : ∀ r ∈ rs, r.length ≤ 4000
  old : betw rs g.synced g.recs ∨ (rst = true ∧ rs = [])
theorem used_pre {a b : List (List UInt8)} (h : a <+: b) : usedV a ≤ usedV b := by obtain ⟨c, rfl⟩ := h; simp [usedV]
theorem betw_dur (hg : Good g) : betw (dur g) g.synced g.recs := by
  have h0 := hg.s0; have h1 := hg.s1
  have hl : (dur g).length = g.synced.toNat := by unfold dur; rw [List.length_take]; omega
  exact ⟨by omega, by omega, by rw [hl]; rfl⟩
theorem betw_all (hg : Good g) : betw g.recs g.synced g.recs := ⟨hg.s1, Nat.le_refl _, by rw [List.take_length]⟩
theorem Pst.crash (h : Pst f n g D T M rst) (hT : T + 3 < 2 ^ 64) (ts : List Torn) : ∃ rs T', Back (D.restart ts) f n g rst rs ∧ Can (D.restart ts) f n T' rs ∧ 0 < T' ∧ T' ≤ T + 1 := by
  obtain ⟨f0, f1, n0, n1⟩ := h.nat
  have htT := h.tT; have ht0 := h.t0; have hlen := h.len
  have hfd := h.good.fitd; have hfa := h.good.fit2; have hfu := h.good.fit
  rw [h.en] at hfd hfa hfu
  have hud := used_pre (a := dur g) (b := g.recs) (List.take_prefix _ _)
  have hed : ∀ r ∈ dur g, r.length ≤ 4000 := fun r hr => h.good.each r (List.mem_of_mem_take hr)
  have hRo := h.ok.restart h.m1 ts
  have hl2 := restart_len D ts
  rcases h.st with ⟨h1, h2⟩ | ⟨h1, h2, h3⟩ | ⟨h1, h2, h3⟩
  · have hc := (h2.restart h.ok f0 (by omega) ts).can hRo f0 (by omega) hfd (by omega) ht0 (by omega)
    exact ⟨_, _, ⟨hc.fits, by omega, hed, .inl (betw_dur h.good)⟩, hc, ht0, by omega⟩
  · rcases h3.restart h.ok h.m1 f0 hlen n0 hfd hfa (by omega) ht0 (by omega) ts with hc | hc
    · exact ⟨_, _, ⟨hc.fits, by omega, hed, .inl (betw_dur h.good)⟩, hc, ht0, by omega⟩
    · exact ⟨_, _, ⟨hc.fits, by omega, h.good.each, .inl (betw_all h.good)⟩, hc, by omega, by omega⟩
  · rcases h3.restart h.ok h.m1 f0 hlen n0 hfd (by rw [enc_zero]; omega) (by omega) ht0 (by omega) ts with hc | hc
    · exact ⟨_, _, ⟨hc.fits, by omega, hed, .inl (betw_dur h.good)⟩, hc, ht0, by omega⟩
    · exact ⟨_, _, ⟨hc.fits, by show ((0 : Nat) : Int) ≤ _; omega, fun r hr => (by cases hr), .inr ⟨h2, rfl⟩⟩, hc, by omega, by omega⟩
/-- A log that is opened anew while all is durable. -/
theorem Pst.reopen (h : Pst f n g D T M rst) (hon : D.off = false) (hs : g.synced = g.recs.length) (hT : T + 2 < 2 ^ 64) : Fits D f n g.recs ∧ Pst f n (lgO D f n g.recs) D T M false := by
  obtain ⟨f0, f1, n0, n1⟩ := h.nat
  have htT := h.tT; have ht0 := h.t0; have hlen := h.len
  have hfa := h.good.fit2; have hfu := h.good.fit
  rw [h.en] at hfa hfu
  obtain ⟨_, hR⟩ := h.on hon
  rw [dur_all hs] at hR
  have hc := hR.can h.ok f0 hlen hfa (by omega) ht0 (by omega)
  have e : dur (lgO D f n g.recs) = g.recs := dur_all rfl
  refine ⟨hc.fits, ⟨lgO_good f0 f1 n0 n1 hc.fits hfu h.good.each, rfl, rfl, h.ok, h.m1, hlen, by show 0 < (nwM D f).1.toNat; rw [hc.turn]; exact ht0, by show (nwM D f).1.toNat ≤ T; rw [hc.turn]; exact htT, .inl ⟨rfl, ?_⟩⟩⟩
  rw [e]
  show Reg D f (nwM D f).1.toNat g.recs
  rw [hc.turn]; exact hR
/-- Another region of the disk. -/
theorem Pst.beside {E : Dk} {f2 n2 : Int} {M' : Nat} (h : Pst f n g D T M rst) (hon : D.off = false) (hF : Frm D E f2 n2) (hl : E.S.length = D.S.length) (hE : E.ok M') (hm : 1 ≤ M') (hd : f + n ≤ f2 ∨ f2 + n2 ≤ f) : Pst f n g E T M' rst := by
  obtain ⟨f0, f1, n0, n1⟩ := h.nat
  have hfd := h.good.fitd
  rw [h.en] at hfd
  obtain ⟨h1, h2⟩ := h.on hon
  exact ⟨h.good, h.ef, h.en, hE, hm, by rw [hl]; exact h.len, h.t0, h.tT, .inl ⟨h1, h2.frame hF h.ok f0 n0 hd hfd⟩⟩
end Go.Wl
