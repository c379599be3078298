/- Reverse. -/
import Derived.Test.YtcbloadpffjkiaaDoorZMsmall
namespace Go.Proofs.YtcbloadpffjkiaaDoor
open Go.Wk Go.Mk Go.Sha

/-- l, of which the first i and the last i are swapped. -/
def rv (l : List Hs) (i : Nat) : List Hs := (List.range l.length).map fun k => if k < i ∨ l.length - i ≤ k then l.getD (l.length - 1 - k) [] else l.getD k []
theorem rv_len (l : List Hs) (i : Nat) : (rv l i).length = l.length := by simp [rv]
theorem rv_get {l : List Hs} {i k : Nat} (h : k < l.length) : (rv l i)[k]? = some (if k < i ∨ l.length - i ≤ k then l.getD (l.length - 1 - k) [] else l.getD k []) := by
  unfold rv; rw [List.getElem?_map, List.getElem?_range h]; rfl
theorem getD_some' {l : List Hs} {k : Nat} {x : Hs} (h : l[k]? = some x) : l.getD k [] = x := by rw [List.getD_eq_getElem?_getD, h]; rfl
theorem rv_zero (l : List Hs) : rv l 0 = l := by
  apply List.ext_getElem?
  intro k
  by_cases h : k < l.length
  · rw [rv_get h, if_neg (by omega), List.getElem?_eq_getElem h, getD_some' (List.getElem?_eq_getElem h)]
  · rw [List.getElem?_eq_none (by rw [rv_len]; omega), List.getElem?_eq_none (by omega)]
theorem rv_done {l : List Hs} {i : Nat} (h : l.length ≤ 2 * i + 1) : rv l i = l.reverse := by
  apply List.ext_getElem?
  intro k
  by_cases hk : k < l.length
  · rw [rv_get hk, List.getElem?_reverse hk]
    by_cases hc : k < i ∨ l.length - i ≤ k
    · rw [if_pos hc, List.getElem?_eq_getElem (by omega), getD_some' (List.getElem?_eq_getElem (by omega))]
    · rw [if_neg hc, show l.length - 1 - k = k from by omega, List.getElem?_eq_getElem hk, getD_some' (List.getElem?_eq_getElem hk)]
  · rw [List.getElem?_eq_none (by rw [rv_len]; omega), List.getElem?_eq_none (by rw [List.length_reverse]; omega)]
theorem rv_step {l : List Hs} {i j : Nat} {x y : Hs} (hj : i + j = l.length - 1) (hlt : i < j) (hx : l[i]? = some x) (hy : l[j]? = some y) : ((rv l i).set i y).set j x = rv l (i + 1) := by
  apply List.ext_getElem?
  intro k
  by_cases hk : k < l.length
  · rw [List.getElem?_set, List.getElem?_set, rv_get hk, rv_get hk, List.length_set, rv_len]
    by_cases e1 : j = k
    · subst e1
      rw [if_pos rfl, if_pos hk, if_pos (by omega), show l.length - 1 - j = i from by omega, getD_some' hx]
    · rw [if_neg e1]
      by_cases e2 : i = k
      · subst e2
        rw [if_pos rfl, if_pos hk, if_pos (by omega), show l.length - 1 - i = j from by omega, getD_some' hy]
      · rw [if_neg e2]
        by_cases hc : k < i ∨ l.length - i ≤ k
        · rw [if_pos hc, if_pos (by omega)]
        · rw [if_neg hc, if_neg (by omega)]
  · rw [List.getElem?_eq_none (by rw [List.length_set, List.length_set, rv_len]; omega), List.getElem?_eq_none (by rw [rv_len]; omega)]
theorem path_len : ∀ (N : Nat) (l : List Hs) (i : Nat), l.length ≤ N → (pathV l i).length ≤ l.length
  | 0, l, i, h => by rw [path_one (by omega)]; simp
  | N + 1, l, i, h => by
    by_cases h2 : 2 ≤ l.length
    · have k1 := spl_lt h2
      have k2 := spl_pos l.length
      by_cases hi : i < spl l.length
      · have := path_len N (l.take (spl l.length)) i (by rw [List.length_take]; omega)
        rw [path_lo h2 hi, List.length_append, List.length_singleton]
        rw [List.length_take] at this; omega
      · have := path_len N (l.drop (spl l.length)) (i - spl l.length) (by rw [List.length_drop]; omega)
        rw [path_hi h2 hi, List.length_append, List.length_singleton]
        rw [List.length_drop] at this; omega
    · rw [path_one (by omega)]; simp
theorem grow_len : ∀ (N : Nat) (m : Nat) (l : List Hs) (w : Bool), l.length ≤ N → 1 ≤ m → m ≤ l.length → (growV m l w).length ≤ l.length
  | 0, m, l, w, h, h1, hm => by omega
  | N + 1, m, l, w, h, h1, hm => by
    by_cases e : m = l.length
    · subst e
      cases w
      · rw [grow_part]; simp only [List.length_singleton]; omega
      · rw [grow_whole]; simp
    · have h2 : 2 ≤ l.length := by omega
      have k1 := spl_lt h2
      have k2 := spl_pos l.length
      by_cases hi : m ≤ spl l.length
      · have := grow_len N m (l.take (spl l.length)) w (by rw [List.length_take]; omega) h1 (by rw [List.length_take]; omega)
        rw [grow_lo e h2 hi, List.length_append, List.length_singleton]
        rw [List.length_take] at this; omega
      · have := grow_len N (m - spl l.length) (l.drop (spl l.length)) false (by rw [List.length_drop]; omega) (by omega) (by rw [List.length_drop]; omega)
        rw [grow_hi e h2 hi, List.length_append, List.length_singleton]
        rw [List.length_drop] at this; omega
set_option maxRecDepth 100000 in
set_option maxHeartbeats 1000000 in
theorem reverse_ok {κ : World} {L : List Assn} {L1 : List Assn} {a : Option Addr} {m c : Nat} {l : List Hs} (h32 : ∀ x ∈ l, x.length = 32) (hp : Pick (Buf (RArr8 32) 25 a m c (l)) L L1) :
    Ctr Tryd.prog 51 #[.slice a m c] κ L (fun v M => v = .tuple #[] ∧ M = Buf (RArr8 32) 25 a m c (l.reverse) :: L1) := by
 refine Ctr.enter (vs := [.slice a m c]) (m := 28) Tryd.func51 rfl rfl rfl ?_
 refine SG.ent hp ?_
 refine SG.buf (T := RArr8 32) (a := a) Pick.here fun hl hc hc63 => ?_
 refine SG.seq ?_
 refine SG.region ?_
 refine RL.val (Wanted.free rfl) (V.move rfl rfl) rfl ?_
 refine RL.val (Wanted.free rfl) (V.len rfl rfl el22.under rfl) rfl ?_
 refine RL.val (Wanted.free rfl) (V.bin rfl rfl rfl (B.subI (by omega) (by omega))) rfl ?_
 refine RL.val (Wanted.free rfl) (V.assign rfl rfl) rfl ?_
 refine RL.val (Wanted.free rfl) (V.assign rfl rfl) rfl ?_
 refine RL.nil ?_
 refine SG.block ?_
 refine SG.weaken (SG.loop2 (fun m0 al M => ∃ i : Nat, 2 * i ≤ l.length + 1 ∧ m0 = l.length - i ∧ al = [(0, .slice a m c), (2, vI i), (3, vI ((m : Int) - 1 - (i : Int)))] ∧ M = Buf (RArr8 32) 25 a m c (rv l i) :: L1) (m0 := _) ⟨0, by omega, rfl, rfl, rfl⟩ ?_) ?_ ?_
 rotate_left
 ·
  rw [show (m : Int) - 1 - ((0 : Nat) : Int) = (m : Int) - 1 from by omega]
  repeat (first | exact EnvLe.nil _ | refine EnvLe.cons rfl ?_)
 ·
  rw [rv_zero]
  exact entX
 rintro _ _ _ ⟨i, hi, rfl, rfl, rfl⟩ ih0
 refine SG.seq ?_
 refine SG.seq ?_
 refine SG.region ?_
 refine RL.val (Wanted.free rfl) (V.move rfl rfl) rfl ?_
 refine RL.val (Wanted.free rfl) (V.move rfl rfl) rfl ?_
 refine RL.cmp (Wanted.free rfl) (V.bin rfl rfl rfl B.lss) rfl (fun h8 => ?_) (fun h8 => ?_)
 ·
  refine RL.nil ?_
  refine SG.cond_true rfl ?_
  refine SG.skip ?_
  refine SG.seq ?_
  refine SG.block ?_
  refine SG.bufAd (a := a) pickX (by omega) fun ad had => ?_
  subst had
  obtain ⟨j, hj⟩ : ∃ j : Nat, i + j = l.length - 1 := ⟨l.length - 1 - i, by omega⟩
  have hjv : (m : Int) - 1 - (i : Int) = (j : Int) := by omega
  rw [hjv]
  obtain ⟨x, hx⟩ : ∃ x, l[i]? = some x := ⟨_, List.getElem?_eq_getElem (by omega)⟩
  obtain ⟨y, hy⟩ : ∃ y, l[j]? = some y := ⟨_, List.getElem?_eq_getElem (by omega)⟩
  have hxl := h32 x (List.mem_of_getElem? hx)
  have hyl := h32 y (List.mem_of_getElem? hy)
  have hgx : (rv l i)[i]? = some x := by rw [rv_get (by omega), if_neg (by omega), getD_some' hx]
  have hgy : (rv l i)[j]? = some y := by rw [rv_get (by omega), if_neg (by omega), getD_some' hy]
  have hrl := rv_len l i
  refine SG.drawL 16 13 wide rfl rfl ?_
  refine RH.val 0 rfl krX krX krX krX (Wanted.free rfl) (V.move rfl rfl) rfl ?_
  refine RH.val 1 rfl krX krX krX krX (Wanted.free rfl) (V.move rfl rfl) rfl ?_
  refine RH.pure 2 rfl krX krX krX krX (Wanted.free rfl) (V.move rfl rfl) rfl ?_
  refine RH.pure 3 rfl krX krX krX krX (Wanted.free rfl) (V.move rfl rfl) rfl ?_
  refine RH.val 4 rfl krX krX krX krX (Wanted.free rfl) (V.move rfl rfl) rfl ?_
  refine RH.val 5 rfl krX krX krX krX (Wanted.free rfl) (V.move rfl rfl) rfl ?_
  refine RH.val 6 rfl krX krX krX krX (Wanted.free rfl) (V.indexAd (j := j) rfl el22.slice rfl rfl (by first | rfl | omega) (by omega)) rfl ?_
  refine RH.val 7 rfl krX krX krX krX (Wanted.free rfl) (V.loadBufDt rfl ag25 rfl pickX hgy) rfl ?_
  refine RH.pure 8 rfl krX krX krX krX (Wanted.free rfl) (V.move rfl rfl) rfl ?_
  refine RH.pure 9 rfl krX krX krX krX (Wanted.free rfl) (V.move rfl rfl) rfl ?_
  refine RH.pure 10 rfl krX krX krX krX (Wanted.free rfl) (V.indexAd (j := i) rfl el22.slice rfl rfl (by first | rfl | omega) (by omega)) rfl ?_
  refine RH.val 11 rfl krX krX krX krX (Wanted.free rfl) (V.loadBufDt rfl ag25 rfl pickX hgx) rfl ?_
  refine RH.val 12 rfl krX krX krX krX (Wanted.free rfl) (V.indexAd (j := i) rfl el22.slice rfl rfl (by first | rfl | omega) (by omega)) rfl ?_
  refine RH.one (i := 13) krX ?_
  refine RHone.eff rfl (Wanted.free rfl) (E.storeBuf (T := RArr8 32) (j := i) (y := y) (y.map v8) rfl sz25 rfl rfl rfl pickX (by omega) (fun _ _ _ => ⟨rfl, hyl⟩)) rfl ?_
  rintro _ _ rfl
  refine ⟨.inl krX, ?_⟩
  refine RH.pure 14 rfl krX krX krX krX (Wanted.free rfl) (V.indexAd (j := j) rfl el22.slice rfl rfl (by first | rfl | omega) (by omega)) rfl ?_
  refine RH.one (i := 15) krX ?_
  refine RHone.eff rfl (Wanted.free rfl) (E.storeBuf (T := RArr8 32) (j := j) (y := x) (x.map v8) rfl sz25 rfl rfl rfl pickX (by rw [List.length_set]; omega) (fun _ _ _ => ⟨rfl, hxl⟩)) rfl ?_
  rintro _ _ rfl
  refine ⟨.inl krX, ?_⟩
  rw [rv_step hj (by omega) hx hy]
  refine RH.done krX ?_
  refine SG.inBlock ?_
  refine SG.region ?_
  refine RL.val (Wanted.free rfl) (V.move rfl rfl) rfl ?_
  refine RL.val (Wanted.free rfl) (V.bin rfl rfl rfl (B.addI (by omega) (by omega))) rfl ?_
  refine RL.val (Wanted.free rfl) (V.move rfl rfl) rfl ?_
  refine RL.val (Wanted.free rfl) (V.bin rfl rfl rfl (B.subI (by omega) (by omega))) rfl ?_
  refine RL.val (Wanted.free rfl) (V.assign rfl rfl) rfl ?_
  refine RL.val (Wanted.free rfl) (V.assign rfl rfl) rfl ?_
  refine RL.nil ?_
  refine SG.weaken (ih0 _ _ _ ?_ ⟨i + 1, by omega, rfl, rfl, rfl⟩) ?_ ?_
  ·
   omega
  ·
   rw [show (m : Int) - 1 - ((i + 1 : Nat) : Int) = (j : Int) - 1 from by omega]
   repeat (first | exact EnvLe.nil _ | refine EnvLe.cons rfl ?_)
  ·
   exact entX
 ·
  refine RL.nil ?_
  refine SG.cond_false rfl ?_
  refine SG.exit rfl ?_
  rw [rv_done (l := l) (i := i) (by omega)]
  refine SG.doneE (Ret.none Tryd.func51 rfl) ?_ ⟨rfl, rfl⟩
  exact entX

end Go.Proofs.YtcbloadpffjkiaaDoor
