/- Disks in plain Lean: one sector of the map brought forward; what a loop over the map has done. -/
import Derived.Test.YtnbjonijlkjclaaDoorDPlain
namespace Go.Dsk
open Go.Wk
section
variable {e : TypeId} {b : Nat} {xs : List Ent3} {S : List (List Sec)} {L L1 L' : List Assn} {κ w : World} {k : Nat} {l : List Sec}
theorem Pend.ent (h : Pnd xs S) (hL : Ent L' (Mp b (xs.map ent) :: Each (own e) xs :: L)) : Ent L' (Pend e b S :: L) := hL.trans (Pend.close h)
/-- What is known when sector k is brought forward: es: the map's entries, xs: the other ones. -/
structure Fwd (e : TypeId) (b : Nat) (S : List (List Sec)) (k : Nat) (l : List Sec) (es : List (Int × Value)) (a : Option Addr) (m c : Nat) (xs : List Ent3) : Prop where
  look : (mget es k).getD (.slice none 0 0) = .slice a m c
  is : (mget es k).isSome = decide (l.tail ≠ [])
  back : ∀ L, Ent (Mp b es :: Buf (RArr8 64) e a m c l.tail :: Each (own e) xs :: L) (Pend e b S :: L)
  put : ∀ (a' : Option Addr) (m' c' : Nat) (l' : List Sec), l'.tail ≠ [] → ∀ L, Ent (Mp b (mput es k (.slice a' m' c')) :: Buf (RArr8 64) e a' m' c' l'.tail :: Each (own e) xs :: L) (Pend e b (S.set k l') :: L)
  del : ∀ s L, Ent (Mp b (mdel es k) :: Each (own e) xs :: L) (Pend e b (S.set k [s]) :: L)
theorem sep_fwd (hs : Sep κ w (Pend e b S :: L)) (hk : S[k]? = some l) : ∃ es a m c xs, Fwd e b S k l es a m c xs ∧ Sep κ w (Mp b es :: Buf (RArr8 64) e a m c l.tail :: Each (own e) xs :: L) := by
  obtain ⟨xs, hx, hs⟩ := hs.openExp
  rcases hx.look hk with ⟨ht, hg, hno⟩ | ⟨ht, i, a, m, c, hi, hg⟩
  · refine ⟨xs.map ent, none, 0, 0, xs, ⟨by rw [hg]; rfl, by rw [hg]; simp [ht], fun L => ?_, fun a' m' c' l' hl' L => ?_, fun s L => ?_⟩, hs.ent (Ent.frame _ ?_)⟩
    · exact Ent.trans (Ent.frame _ (Ent.drop _ _)) (Pend.close hx)
    · have := hx.put hk (a', m', c') hl'
      rw [filter_absent hno] at this
      refine Ent.trans ?_ (Pend.close this)
      have e1 : mput (xs.map ent) k (.slice a' m' c') = ((((k : Int), (a', m', c'), l'.tail) :: xs).map ent) := by
        rw [mput, mdel_ent, filter_absent hno]; rfl
      rw [e1]
      exact Ent.frame _ (Each.cons (f := own e) (x := ((k : Int), (a', m', c'), l'.tail)))
    · have := hx.del (k := k) (s := s)
      rw [filter_absent hno] at this
      rw [mdel_ent, filter_absent hno]
      exact Pend.close this
    · rw [ht]; exact Ent.trans Buf.nil (Ent.refl _)
  · have hf := erase_filter hx.2.2 hi
    refine ⟨xs.map ent, a, m, c, xs.eraseIdx i, ⟨by rw [hg]; rfl, by rw [hg]; simp [ht], fun L => ?_, fun a' m' c' l' hl' L => ?_, fun s L => ?_⟩, hs.ent (Ent.frame _ (Each.take hi))⟩
    · exact Ent.trans (Ent.frame _ (Each.back' (f := own e) hi)) (Pend.close hx)
    · have := hx.put hk (a', m', c') hl'
      rw [hf]
      refine Ent.trans ?_ (Pend.close this)
      have e1 : mput (xs.map ent) k (.slice a' m' c') = ((((k : Int), (a', m', c'), l'.tail) :: xs.filter (fun x => x.1 ≠ (k : Int))).map ent) := by
        rw [mput, mdel_ent]; rfl
      rw [e1]
      exact Ent.frame _ (Each.cons (f := own e) (x := ((k : Int), (a', m', c'), l'.tail)))
    · have := hx.del (k := k) (s := s)
      rw [hf, mdel_ent]
      exact Pend.close this
end
section
variable {P : Program} {f : FuncId} {n : Nat} {κ : World} {K : Post} {kk : List Item} {al : List (Nat × Value)} {L L1 : List Assn} {e : TypeId} {b : Nat} {S : List (List Sec)} {k : Nat} {l : List Sec}
theorem SG.fwd (hp : Pick (Pend e b S) L L1) (hk : S[k]? = some l) (h : ∀ es a m c xs, Fwd e b S k l es a m c xs → SG P f n κ K kk al (Mp b es :: Buf (RArr8 64) e a m c l.tail :: Each (own e) xs :: L1)) : SG P f n κ K kk al L := fun a' w he hs => by
  obtain ⟨es, a, m, c, xs, hF, hs'⟩ := sep_fwd (hs.ent hp) hk
  exact h es a m c xs hF a' w he hs'
theorem SG.openPend (hp : Pick (Pend e b S) L L1) (h : ∀ xs, Pnd xs S → SG P f n κ K kk al (Mp b (xs.map ent) :: Each (own e) xs :: L1)) : SG P f n κ K kk al L := SG.openExp hp h
theorem own.take {xs : List Ent3} {i : Nat} {q : Int} {a : Option Addr} {m c : Nat} {l : List Sec} (hi : xs[i]? = some (q, (a, m, c), l)) : Ent (Each (own e) xs :: L) (Buf (RArr8 64) e a m c l :: Each (own e) (xs.eraseIdx i) :: L) := Each.take hi
theorem own.back {xs : List Ent3} {i : Nat} {q : Int} {a : Option Addr} {m c : Nat} {l : List Sec} (hi : xs[i]? = some (q, (a, m, c), l)) : Ent (Buf (RArr8 64) e a m c l :: Each (own e) (xs.eraseIdx i) :: L) (Each (own e) xs :: L) := Each.back' (f := own e) hi
end
theorem last_tail {l : List Sec} (h : l.tail ≠ []) : l.tail[l.tail.length - 1]? = some (lst l) := by
  cases l with
  | nil => exact absurd rfl h
  | cons x l =>
    rw [List.tail_cons] at *
    have hp := List.length_pos_iff.2 h
    rw [← List.getLast?_eq_getElem?, lst, List.getLastD_eq_getLast?, List.getLast?_cons_of_ne_nil h, List.getLast?_eq_some_getLast h]; rfl
theorem lst_tail_nil {l : List Sec} (h : l.tail = []) : lst l = hd l := by
  cases l with
  | nil => rfl
  | cons x l => rw [List.tail_cons] at h; subst h; rfl
theorem tail_ne {l : List Sec} : l.tail ≠ [] ↔ 1 < l.length := by
  cases l with
  | nil => simp
  | cons x l => cases l <;> simp
theorem hd_tail {l : List Sec} (h : l ≠ []) : l = hd l :: l.tail := by
  cases l with
  | nil => exact absurd rfl h
  | cons x l => rfl
theorem map_hd_set {S : List (List Sec)} {k : Nat} {l : List Sec} (s : Sec) : (S.set k (s :: l)).map hd = (S.map hd).set k s := by rw [List.map_set]; rfl
theorem nth_tail {l : List Sec} {i : Nat} : nth l (i + 1) = nth l.tail i := by cases l <;> simp [nth]
theorem hd_nth (l : List Sec) : hd l = nth l 0 := by cases l <;> rfl
theorem tail_nth {l : List Sec} {i : Nat} (h : i + 1 < l.length) : l.tail[i]? = some (nth l (i + 1)) := by
  cases l with
  | nil => simp at h
  | cons x l => simp at h; simp [nth, h]

/- WHAT A LOOP OVER THE MAP HAS DONE -/
structure FlI (xs : List Ent3) (S : List (List Sec)) (rem : List (Int × Value)) (dl : List Sec) : Prop where
  sub : ∀ y ∈ rem, y ∈ xs.map ent
  nodup : (rem.map (·.1)).Nodup
  len : dl.length = S.length
  val : ∀ (k : Nat) (l : List Sec), S[k]? = some l → dl[k]? = some (if (k : Int) ∈ rem.map (·.1) then hd l else lst l)
theorem FlI.start {xs : List Ent3} {S : List (List Sec)} (h : Pnd xs S) : FlI xs S (xs.map ent) (S.map hd) := by
  refine ⟨fun _ h => h, by rw [ent_keys]; exact h.2.2, by simp, fun k l hk => ?_⟩
  rw [List.getElem?_map, hk, Option.map_some]
  congr 1
  split
  · rfl
  · rename_i hn
    refine (lst_tail_nil (Decidable.byContradiction fun ht => hn ?_)).symm
    obtain ⟨x, hx, e⟩ := h.2.1 k l hk ht
    rw [ent_keys, ← e]; exact List.mem_map_of_mem (f := fun (q : Ent3) => q.1) hx
theorem FlI.step {xs : List Ent3} {S : List (List Sec)} {rem rem' : List (Int × Value)} {dl : List Sec} {k : Nat} {v : Value} {l : List Sec} (h : FlI xs S rem dl) (hp : rem.Perm (((k : Int), v) :: rem')) (hk : S[k]? = some l) : FlI xs S rem' (dl.set k (lst l)) := by
  have hn : (((k : Int), v) :: rem').map (·.1) |>.Nodup := (hp.map _).nodup_iff.1 h.nodup
  rw [List.map_cons, List.nodup_cons] at hn
  have hlt : k < S.length := (List.getElem?_eq_some_iff.1 hk).1
  refine ⟨fun y hy => h.sub y (hp.mem_iff.2 (List.mem_cons_of_mem _ hy)), hn.2, by rw [List.length_set]; exact h.len, fun j l2 hj => ?_⟩
  by_cases e : k = j
  · subst e
    rw [hk] at hj; cases hj
    rw [List.getElem?_set_self (by rw [h.len]; exact hlt), if_neg hn.1]
  · rw [List.getElem?_set_ne e, h.val j l2 hj]
    have : ((j : Int) ∈ rem.map (·.1)) ↔ ((j : Int) ∈ rem'.map (·.1)) := by
      rw [(hp.map _).mem_iff, List.map_cons, List.mem_cons]
      constructor
      · rintro (h | h)
        · simp only at h; omega
        · exact h
      · exact .inr
    by_cases hm : (j : Int) ∈ rem'.map (·.1)
    · rw [if_pos hm, if_pos (this.2 hm)]
    · rw [if_neg hm, if_neg (fun h => hm (this.1 h))]
theorem FlI.done {xs : List Ent3} {S : List (List Sec)} {dl : List Sec} (h : FlI xs S [] dl) : dl = S.map lst := by
  apply List.ext_getElem? 
  intro i
  rw [List.getElem?_map]
  cases hk : S[i]? with
  | none => rw [List.getElem?_eq_none_iff] at hk; rw [Option.map_none, List.getElem?_eq_none_iff, h.len]; exact hk
  | some l => rw [h.val i l hk]; simp
theorem ent_at {xs : List Ent3} {S : List (List Sec)} {y : Int × Value} (hx : Pnd xs S) (h : y ∈ xs.map ent) : ∃ (i kn : Nat) (a : Option Addr) (m c : Nat) (l : List Sec), xs[i]? = some ((kn : Int), (a, m, c), l.tail) ∧ y = ((kn : Int), .slice a m c) ∧ S[kn]? = some l ∧ l.tail ≠ [] := by
  obtain ⟨⟨q, ⟨a, m, c⟩, tl⟩, hm, rfl⟩ := List.mem_map.1 h
  obtain ⟨h0, l, h1, h2, h3⟩ := hx.1 _ hm
  simp only at h0 h1 h2 h3
  obtain ⟨i, hi⟩ := List.getElem?_of_mem hm
  obtain ⟨kn, rfl⟩ := Int.eq_ofNat_of_zero_le h0
  subst h2
  exact ⟨i, kn, a, m, c, l, hi, rfl, h1, h3⟩
structure ClI (xs : List Ent3) (rem : List (Int × Value)) (ys : List Ent3) : Prop where
  sub : ∀ y ∈ rem, y ∈ xs.map ent
  nodup : (rem.map (·.1)).Nodup
  from_ : ∀ y ∈ ys, ∃ x ∈ xs, x.1 = y.1 ∧ x.2.2 = y.2.2
  all : ∀ x ∈ xs, x.1 ∈ rem.map (·.1) ∨ ∃ y ∈ ys, y.1 = x.1
  fresh : ∀ y ∈ ys, y.1 ∉ rem.map (·.1)
  keys : (ys.map (·.1)).Nodup
theorem ClI.start {xs : List Ent3} {S : List (List Sec)} (h : Pnd xs S) : ClI xs (xs.map ent) [] :=
  ⟨fun _ h => h, by rw [ent_keys]; exact h.2.2, fun y hy => absurd hy List.not_mem_nil, fun x hx => .inl (by rw [ent_keys]; exact List.mem_map_of_mem (f := fun (q : Ent3) => q.1) hx), fun y hy => absurd hy List.not_mem_nil, List.nodup_nil⟩
theorem ClI.step {xs : List Ent3} {rem rem' : List (Int × Value)} {ys : List Ent3} {i : Nat} {q : Int} {t t' : Tri} {tl : List Sec} (h : ClI xs rem ys) (hp : rem.Perm ((q, tv t) :: rem')) (hi : xs[i]? = some (q, t, tl)) : ClI xs rem' ((q, t', tl) :: ys) ∧ mput (ys.map ent) q (tv t') = ((q, t', tl) :: ys).map ent := by
  have hn : ((q, tv t) :: rem').map (·.1) |>.Nodup := (hp.map _).nodup_iff.1 h.nodup
  rw [List.map_cons, List.nodup_cons] at hn
  have hq : q ∈ rem.map (·.1) := (hp.map _).mem_iff.2 (List.mem_cons_self ..)
  have hno : ∀ y ∈ ys, y.1 ≠ q := fun y hy e => h.fresh y hy (e ▸ hq)
  refine ⟨⟨fun y hy => h.sub y (hp.mem_iff.2 (List.mem_cons_of_mem _ hy)), hn.2, fun y hy => ?_, fun x hx => ?_, fun y hy => ?_, ?_⟩, ?_⟩
  · rcases List.mem_cons.1 hy with rfl | hy
    · exact ⟨_, mem_of hi, rfl, rfl⟩
    · exact h.from_ y hy
  · rcases h.all x hx with h1 | ⟨y, hy, e⟩
    · rw [(hp.map _).mem_iff, List.map_cons, List.mem_cons] at h1
      rcases h1 with h1 | h1
      · exact .inr ⟨_, List.mem_cons_self .., h1.symm⟩
      · exact .inl h1
    · exact .inr ⟨y, List.mem_cons_of_mem _ hy, e⟩
  · rcases List.mem_cons.1 hy with rfl | hy
    · exact hn.1
    · exact fun hm => h.fresh y hy ((hp.map _).mem_iff.2 (List.mem_cons_of_mem _ hm))
  · rw [List.map_cons, List.nodup_cons]
    refine ⟨fun hm => ?_, h.keys⟩
    obtain ⟨y, hy, e⟩ := List.mem_map.1 hm
    exact hno y hy e
  · rw [mput, mdel_ent, filter_absent hno]; rfl
theorem ClI.done {xs ys : List Ent3} {S : List (List Sec)} (h : ClI xs [] ys) (hx : Pnd xs S) : Pnd ys S := by
  refine ⟨fun y hy => ?_, fun k l hk ht => ?_, h.keys⟩
  · obtain ⟨x, hm, e1, e2⟩ := h.from_ y hy
    rw [← e1, ← e2]; exact hx.1 x hm
  · obtain ⟨x, hm, e⟩ := hx.2.1 k l hk ht
    rcases h.all x hm with h1 | ⟨y, hy, e2⟩
    · simp at h1
    · exact ⟨y, hy, e2.trans e⟩
theorem limit_code {n most : Int} (h : 0 ≤ most) : (if most < (if n < 0 then 0 else n) then most else (if n < 0 then 0 else n)) = limit n most := by
  unfold limit; split <;> split <;> (try split) <;> omega
theorem Pnd.isSome {xs : List Ent3} {S : List (List Sec)} (h : Pnd xs S) (q : Int) : (mget (xs.map ent) q).isSome = decide (0 ≤ q ∧ q < S.length ∧ 1 < (S.getD q.toNat []).length) := by
  by_cases hc : 0 ≤ q ∧ q < S.length ∧ 1 < (S.getD q.toNat []).length
  · obtain ⟨h0, h1, h2⟩ := hc
    obtain ⟨k, rfl⟩ := Int.eq_ofNat_of_zero_le h0
    have hlt : k < S.length := by omega
    have hk : S[k]? = some S[k] := List.getElem?_eq_getElem hlt
    have e : S.getD (k : Int).toNat [] = S[k] := by simp [hlt]
    rw [e] at h2
    rcases h.look hk with ⟨ht, _⟩ | ⟨_, i, a, m, c, _, hg⟩
    · exact absurd ht (tail_ne.2 h2)
    · rw [hg]; simp [h1, hlt, h2]
  · rw [decide_eq_false hc, mget_ent_none (fun x hx e => hc ?_)]; rfl
    obtain ⟨h0, l, h1, h2, h3⟩ := h.1 x hx
    rw [e] at h0 h1
    have hlt := (List.getElem?_eq_some_iff.1 h1).1
    refine ⟨h0, by omega, ?_⟩
    rw [List.getD_eq_getElem?_getD, h1]
    rw [← h2] at h3
    exact tail_ne.1 h3
def Dk.stepped (D : Dk) (ts : List Torn) : Dk := { D with S := ts.foldl rstep D.S }
theorem Dk.ok.stepped {D : Dk} {m : Nat} (h : D.ok m) (hm : 1 ≤ m) (ts : List Torn) : (D.stepped ts).ok m := ⟨by simpa [Dk.stepped, foldl_len] using h.len, h.fuse, foldl_all hm ts h.all⟩
def Dk.lost (D : Dk) (t : Torn) : Dk := { D with S := D.S.set t.s.toNat [surv (D.at t.s) t.w t.b] }
theorem stepped_snoc {D : Dk} {ts : List Torn} {t : Torn} : D.stepped (ts ++ [t]) = { D with S := rstep (D.stepped ts).S t } := by simp [Dk.stepped]
theorem Dk.add_len (D : Dk) (k : Int) (s : Sec) : (D.add k s).S.length = D.S.length := by simp [Dk.add]
theorem set_hd {S : List (List Sec)} {k : Nat} {l l' : List Sec} (hk : S[k]? = some l) (h : hd l' = hd l) : (S.set k l').map hd = S.map hd := by
  rw [List.map_set, h]
  apply List.ext_getElem?
  intro i
  rw [List.getElem?_set]
  split
  · rename_i e; subst e
    rw [List.getElem?_map, hk]
    have := (List.getElem?_eq_some_iff.1 hk).1
    simp [this]
  · rfl
end Go.Dsk
