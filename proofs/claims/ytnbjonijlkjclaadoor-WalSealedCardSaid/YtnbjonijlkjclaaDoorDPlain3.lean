/- Disks in plain Lean: restarts, sector by sector. -/
import Derived.Test.YtnbjonijlkjclaaDoorDPlain2
namespace Go.Dsk
open Go.Wk
/-- The first that names sector k. -/
def firstOf (ts : List Torn) (k : Nat) : Option Torn := ts.find? (fun t => t.s = (k : Int))
/-- What a restart leaves of sector k. -/
def left (l : List Sec) (t : Option Torn) : Sec := match t with | some t => if 1 < l.length then surv l t.w t.b else hd l | none => hd l
theorem rstep_get (S : List (List Sec)) (t : Torn) (k : Nat) : (rstep S t)[k]? = (S[k]?).map fun l => if t.s = (k : Int) ∧ 1 < l.length then [surv l t.w t.b] else l := by
  unfold rstep
  split
  · rename_i h
    obtain ⟨h0, h1, h2⟩ := h
    obtain ⟨q, hq⟩ := Int.eq_ofNat_of_zero_le h0
    have hql : q < S.length := by omega
    have e : t.s.toNat = q := by rw [hq]; rfl
    rw [e] at h2 ⊢
    by_cases hk : q = k
    · subst hk
      rw [List.getElem?_set_self hql, List.getElem?_eq_getElem hql]
      have e2 : S.getD q [] = S[q] := by simp [hql]
      rw [e2] at h2 ⊢
      simp [hq, h2]
    · rw [List.getElem?_set_ne hk]
      cases S[k]? with
      | none => rfl
      | some l =>
        have : ¬ (t.s = (k : Int) ∧ 1 < l.length) := fun h => by omega
        simp [this]
  · rename_i h
    cases hk : S[k]? with
    | none => rfl
    | some l =>
      have hlt := (List.getElem?_eq_some_iff.1 hk).1
      have : ¬ (t.s = (k : Int) ∧ 1 < l.length) := fun hc => h (by
        refine ⟨by omega, by omega, ?_⟩
        rw [hc.1, Int.toNat_natCast, List.getD_eq_getElem?_getD, hk]; exact hc.2)
      simp [this]
theorem foldl_short (ts : List Torn) : ∀ (S : List (List Sec)) (k : Nat) (l : List Sec), S[k]? = some l → ¬ 1 < l.length → (ts.foldl rstep S)[k]? = some l := by
  induction ts with
  | nil => exact fun S k l h _ => h
  | cons t ts ih =>
    intro S k l h hl
    rw [List.foldl_cons]
    refine ih _ k l ?_ hl
    rw [rstep_get, h]; simp [hl]
theorem foldl_get (ts : List Torn) : ∀ (S : List (List Sec)) (k : Nat) (l : List Sec), S[k]? = some l → ((ts.foldl rstep S)[k]?).map hd = some (left l (firstOf ts k)) := by
  induction ts with
  | nil => intro S k l h; simp [firstOf, left, h]
  | cons t ts ih =>
    intro S k l h
    rw [List.foldl_cons]
    by_cases hc : t.s = (k : Int) ∧ 1 < l.length
    · have h2 : (rstep S t)[k]? = some [surv l t.w t.b] := by rw [rstep_get, h]; simp [hc]
      rw [foldl_short ts _ k _ h2 (by simp)]
      simp [firstOf, left, hc, hd]
    · have h2 : (rstep S t)[k]? = some l := by rw [rstep_get, h]; simp [hc]
      rw [ih _ k l h2]
      by_cases hs : t.s = (k : Int)
      · have hl : ¬ 1 < l.length := fun hl => hc ⟨hs, hl⟩
        congr 1
        have e : ∀ o : Option Torn, left l o = hd l := fun o => by cases o <;> simp [left, hl]
        rw [e, e]
      · simp [firstOf, hs]
theorem restart_get {D : Dk} {ts : List Torn} {k : Nat} {l : List Sec} (h : D.S[k]? = some l) : (D.restart ts).S[k]? = some [left l (firstOf ts k)] := by
  have := foldl_get ts D.S k l h
  rw [← List.getElem?_map] at this
  simp only [Dk.restart, List.getElem?_map] at this ⊢
  cases hx : (ts.foldl rstep D.S)[k]? with
  | none => rw [hx] at this; cases this
  | some x => rw [hx] at this; simpa using this
theorem restart_len (D : Dk) (ts : List Torn) : (D.restart ts).S.length = D.S.length := by simp [Dk.restart, foldl_len]
/-- A list that is the restart's, sector by sector. -/
theorem restart_eq {D : Dk} {ts : List Torn} {S : List (List Sec)} (hl : S.length = D.S.length) (h : ∀ (k : Nat) (l : List Sec), D.S[k]? = some l → S[k]? = some [left l (firstOf ts k)]) : S = (D.restart ts).S := by
  apply List.ext_getElem?
  intro i
  cases hk : D.S[i]? with
  | none =>
    have h1 : D.S.length ≤ i := List.getElem?_eq_none_iff.1 hk
    rw [List.getElem?_eq_none (by omega), List.getElem?_eq_none (by rw [restart_len]; omega)]
  | some l => rw [h i l hk, restart_get hk]
/- what a loop over the sectors has done -/
def upTo (g : Nat → List Sec → List Sec) (i : Nat) (S : List (List Sec)) : List (List Sec) := S.mapIdx fun k l => if k < i then g k l else l
theorem upTo_zero (g : Nat → List Sec → List Sec) (S : List (List Sec)) : upTo g 0 S = S := by
  apply List.ext_getElem?; intro i; rw [upTo, List.getElem?_mapIdx]; simp
theorem upTo_get {g : Nat → List Sec → List Sec} {i k : Nat} {S : List (List Sec)} {l : List Sec} (h : S[k]? = some l) : (upTo g i S)[k]? = some (if k < i then g k l else l) := by rw [upTo, List.getElem?_mapIdx, h]; rfl
theorem upTo_len (g : Nat → List Sec → List Sec) (i : Nat) (S : List (List Sec)) : (upTo g i S).length = S.length := by simp [upTo]
theorem upTo_step {g : Nat → List Sec → List Sec} {i : Nat} {S : List (List Sec)} {l : List Sec} (h : S[i]? = some l) : upTo g (i + 1) S = (upTo g i S).set i (g i l) := by
  apply List.ext_getElem?
  intro k
  have hlt := (List.getElem?_eq_some_iff.1 h).1
  rw [List.getElem?_set, upTo_len]
  by_cases e : i = k
  · subst e
    rw [if_pos rfl, if_pos hlt, upTo_get h]; simp
  · rw [if_neg e]
    cases hk : S[k]? with
    | none => rw [List.getElem?_eq_none (by rw [upTo_len]; exact List.getElem?_eq_none_iff.1 hk), List.getElem?_eq_none (by rw [upTo_len]; exact List.getElem?_eq_none_iff.1 hk)]
    | some l' =>
      rw [upTo_get hk, upTo_get hk]
      by_cases h1 : k < i
      · rw [if_pos h1, if_pos (by omega)]
      · rw [if_neg h1, if_neg (by omega)]
theorem upTo_same {g : Nat → List Sec → List Sec} {i : Nat} {S : List (List Sec)} {l : List Sec} (h : S[i]? = some l) (hg : g i l = l) : upTo g (i + 1) S = upTo g i S := by
  rw [upTo_step h, hg]
  apply List.ext_getElem?
  intro k
  rw [List.getElem?_set, upTo_len]
  split
  · rename_i e; subst e
    rw [if_pos (List.getElem?_eq_some_iff.1 h).1, upTo_get h]; simp
  · rfl
theorem upTo_all {g : Nat → List Sec → List Sec} {i : Nat} {S : List (List Sec)} (h : S.length ≤ i) : upTo g i S = S.mapIdx g := by
  apply List.ext_getElem?
  intro k
  rw [upTo, List.getElem?_mapIdx, List.getElem?_mapIdx]
  cases hk : S[k]? with
  | none => rfl
  | some l =>
    have := (List.getElem?_eq_some_iff.1 hk).1
    simp [show k < i from by omega]
theorem mapIdx_map (g : List Sec → List Sec) (S : List (List Sec)) : S.mapIdx (fun _ l => g l) = S.map g := by
  apply List.ext_getElem?
  intro k
  rw [List.getElem?_mapIdx, List.getElem?_map]
theorem restart_mapIdx (D : Dk) (ts : List Torn) : D.S.mapIdx (fun k l => [left l (firstOf ts k)]) = (D.restart ts).S :=
  restart_eq (by simp) fun k l h => by rw [List.getElem?_mapIdx, h]; rfl
theorem lst_get {l : List Sec} (h : l ≠ []) : l[l.length - 1]? = some (lst l) := by
  rw [← List.getLast?_eq_getElem?, lst, List.getLastD_eq_getLast?, List.getLast?_eq_some_getLast h]; rfl
theorem nth_get {l : List Sec} {i : Nat} (h : i < l.length) : l[i]? = some (nth l i) := by simp [nth, h]
theorem mix_step {s t : List UInt8} {i : Nat} (hs : i < s.length) (ht : i < t.length) : s.take (i + 1) ++ t.drop (i + 1) = (s.take i ++ t.drop i).set i s[i] := by
  have h1 : s.take (i + 1) = s.take i ++ [s[i]] := by rw [List.take_add_one, List.getElem?_eq_getElem hs]; rfl
  have hl : (s.take i).length = i := by rw [List.length_take]; omega
  rw [h1, List.drop_eq_getElem_cons ht]
  apply List.ext_getElem?
  intro k
  rw [List.getElem?_set]
  by_cases e : i = k
  · subst e
    rw [if_pos rfl, if_pos (by simp [hl]; omega)]
    rw [List.append_assoc, List.getElem?_append_right (by omega), hl]; simp
  · rw [if_neg e]
    by_cases h : k < i
    · rw [List.append_assoc, List.getElem?_append_left (by omega), List.getElem?_append_left (by omega)]
    · have : k - i = (k - i - 1) + 1 := by omega
      simp only [List.append_assoc, List.getElem?_append, hl, if_neg h]
      rw [this]
      simp
      congr 1; omega
/- looking for the first that names a sector -/
def SP (ts : List Torn) (i : Nat) (l : List Sec) (x : Int) : Prop := (x = -1 ∧ left l (firstOf ts i) = hd l) ∨ ∃ (q : Nat) (t : Torn), q < ts.length ∧ x = (q : Int) ∧ ts[q]? = some t ∧ firstOf ts i = some t ∧ 1 < l.length
def SJ (ts : List Torn) (i : Nat) (l : List Sec) (j : Nat) (x : Int) : Prop := (x = -1 ∧ ∀ t ∈ ts.take j, t.s ≠ (i : Int)) ∨ ∃ (q : Nat) (t : Torn), q < ts.length ∧ x = (q : Int) ∧ ts[q]? = some t ∧ firstOf ts i = some t ∧ 1 < l.length
theorem left_short {l : List Sec} (h : ¬ 1 < l.length) (o : Option Torn) : left l o = hd l := by cases o <;> simp [left, h]
theorem SJ.start (ts : List Torn) (i : Nat) (l : List Sec) : SJ ts i l 0 (-1) := .inl ⟨rfl, by simp⟩
theorem SJ.exit {ts : List Torn} {i : Nat} {l : List Sec} {j : Nat} {x : Int} (h : SJ ts i l j x) (he : ts.length ≤ j ∨ 0 ≤ x ∨ ¬ 1 < l.length) : SP ts i l x := by
  rcases h with ⟨hx, hno⟩ | h
  · refine .inl ⟨hx, ?_⟩
    rcases he with he | he | he
    · rw [List.take_of_length_le he] at hno
      have : firstOf ts i = none := List.find?_eq_none.2 fun t ht => by simpa using hno t ht
      rw [this]; rfl
    · omega
    · exact left_short he _
  · exact .inr h
theorem SJ.found {ts : List Torn} {i : Nat} {l : List Sec} {j : Nat} {x : Int} (h : SJ ts i l j x) (hx : x < 0) (hj : j < ts.length) (hs : ts[j].s = (i : Int)) (hl : 1 < l.length) : SJ ts i l (j + 1) j := by
  rcases h with ⟨_, hno⟩ | ⟨q, _, _, h, _⟩
  · refine .inr ⟨j, ts[j], hj, rfl, List.getElem?_eq_getElem hj, ?_, hl⟩
    have e : ts = ts.take j ++ ts[j] :: ts.drop (j + 1) := by rw [← List.drop_eq_getElem_cons hj, List.take_append_drop]
    unfold firstOf
    conv => lhs; rw [e]
    rw [List.find?_append, List.find?_eq_none.2 (fun t ht => by simpa using hno t ht), Option.none_or, List.find?_cons_of_pos (by simpa using hs)]
  · omega
theorem SJ.skip {ts : List Torn} {i : Nat} {l : List Sec} {j : Nat} {x : Int} (h : SJ ts i l j x) (hx : x < 0) (hj : j < ts.length) (hs : ¬ ts[j].s = (i : Int)) : SJ ts i l (j + 1) x := by
  rcases h with ⟨hx, hno⟩ | ⟨q, _, _, h, _⟩
  · refine .inl ⟨hx, fun t ht => ?_⟩
    rw [List.take_add_one, List.getElem?_eq_getElem hj, List.mem_append] at ht
    rcases ht with ht | ht
    · exact hno t ht
    · simp at ht; subst ht; exact hs
  · omega
theorem take_one {l : List Sec} (h : l ≠ []) : l.take 1 = [hd l] := by
  cases l with
  | nil => exact absurd rfl h
  | cons x l => rfl
/- THE OPERATIONS OF THE STATEMENTS -/
structure OpD where
  kind : Int
  k : Int
  n : Int
  b : List UInt8
  l : List Torn
def OpD.ok (o : OpD) : Prop := inInt o.kind ∧ inInt o.k ∧ inInt o.n
@[reducible] def OpD.cells (o : OpD) (x y : Tri) : List Value := [vI o.kind, vI o.k, vI o.n, tv x, tv y]
def ROp : Rep OpD where
  sz := 5
  rep z cs o := ∃ x y : Tri, cs = o.cells x y ∧ o.ok ∧ SlP R8 x.1 x.2.1 x.2.2 o.b z ∧ SlP RTorn y.1 y.2.1 y.2.2 o.l z
  mono h := fun ⟨x, y, e, k, s, t⟩ => ⟨x, y, e, k, s.mono h, t.mono h⟩
  len := fun ⟨_, _, e, _⟩ => by rw [e]; rfl
  one := fun ⟨_, _, e, _⟩ u hu => by rw [e] at hu; simp at hu; rcases hu with rfl | rfl | rfl | rfl | rfl <;> rfl
section
variable {P : Program} {f : FuncId} {n : Nat} {κ : World} {K : Post} {k : List Item} {al : List (Nat × Value)} {L : List Assn} {a : Option Addr} {m c : Nat} {l : List OpD}
theorem SG.elemOp {j : Nat} {y : OpD} (hm : Sl ROp a m c l ∈ L) (hy : l[j]? = some y)
    (h : ∀ (ab : Option Addr) (mb cb : Nat) (al' : Option Addr) (ml cl : Nat), y.ok → SG P f n κ K k al (Sl R8 ab mb cb y.b :: Sl RTorn al' ml cl y.l :: At a (j * 5) [vI y.kind, vI y.k, vI y.n, .slice ab mb cb, .slice al' ml cl] :: L)) : SG P f n κ K k al L :=
  SG.elemR (ι := Tri × Tri) (p := fun _ => y.ok) (us := fun x => y.cells x.1 x.2) (R := fun x => [SlP R8 x.1.1 x.1.2.1 x.1.2.2 y.b, SlP RTorn x.2.1 x.2.2.1 x.2.2.2 y.l]) hm hy
    (fun z cs ⟨x, x', e, hok, s, t⟩ => ⟨(x, x'), hok, e, fun r hr => by simp at hr; rcases hr with rfl | rfl <;> assumption⟩) fun x hok => h _ _ _ _ _ _ hok
end
/- THE EXAMPLES -/
def by64 (c : UInt8) : Sec := List.replicate 64 c
def lv0 : Dk := fresh 2
def lv1 : Dk := lv0.write 1 (by64 7)
def lv2 : Dk := lv1.flush
def lv3 : Dk := lv2.write 1 (by64 8)
def lv4 : Dk := lv3.write 1 (by64 9)
def lv5 : Dk := lv4.restart [⟨1, 1, 10⟩]
def lw1 : Dk := lv4.restart []
def lw2 : Dk := lw1.blow 1
def lw3 : Dk := lw2.write 0 (by64 1)
def lw4 : Dk := lw3.write 0 (by64 2)
theorem lv0_def : fresh 2 = lv0 := rfl
theorem lv1_def : lv0.write 1 (by64 7) = lv1 := rfl
theorem lv2_def : lv1.flush = lv2 := rfl
theorem lv3_def : lv2.write 1 (by64 8) = lv3 := rfl
theorem lv4_def : lv3.write 1 (by64 9) = lv4 := rfl
theorem lv5_def : lv4.restart [⟨1, 1, 10⟩] = lv5 := rfl
theorem lw1_def : lv4.restart [] = lw1 := rfl
theorem lw2_def : lw1.blow 1 = lw2 := rfl
theorem lw3_def : lw2.write 0 (by64 1) = lw3 := rfl
theorem lw4_def : lw3.write 0 (by64 2) = lw4 := rfl
theorem lv0_ok : lv0.ok 1 := fresh_ok (by decide) (by decide)
theorem lv1_ok : lv1.ok 2 := lv0_ok.write _ _
theorem lv2_ok : lv2.ok 2 := lv1_ok.flush (by decide)
theorem lv3_ok : lv3.ok 3 := lv2_ok.write _ _
theorem lv4_ok : lv4.ok 4 := lv3_ok.write _ _
theorem lv5_ok : lv5.ok 1 := lv4_ok.restart (by decide) _
theorem lw1_ok : lw1.ok 1 := lv4_ok.restart (by decide) _
theorem lw2_ok : lw2.ok 1 := lw1_ok.blow (by decide)
theorem lw3_ok : lw3.ok 2 := lw2_ok.write _ _
theorem lw4_ok : lw4.ok 3 := lw3_ok.write _ _
theorem lv4_read : lv4.read 1 = (by64 9, 0) := by decide +kernel
theorem lv5_read : lv5.read 1 = (List.replicate 10 9 ++ List.replicate 54 8, 0) := by decide +kernel
theorem lw1_read : lw1.read 1 = (by64 7, 0) := by decide +kernel
theorem lw4_read : lw4.read 0 = ([], 10) := by decide +kernel
end Go.Dsk
