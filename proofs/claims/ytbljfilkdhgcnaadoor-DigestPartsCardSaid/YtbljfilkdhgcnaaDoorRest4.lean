/- Sorting. -/
import Derived.Test.YtbljfilkdhgcnaaDoorFacts
import Derived.Test.YtbljfilkdhgcnaaDoorSha
namespace Go.Proofs.YtbljfilkdhgcnaaDoor
open Go.Wk Go.Sha

/-- x put into a list, behind those that are less. -/
def insV (x : Int) (l : List Int) : List Int := l.takeWhile (fun y => decide (y < x)) ++ x :: l.dropWhile (fun y => decide (y < x))
def sortV (l : List Int) : List Int := l.foldl (fun o x => insV x o) []
theorem ins_at {x : Int} : ∀ {l : List Int} {k : Nat}, (∀ j y, j < k → l[j]? = some y → y < x) → k ≤ l.length → (∀ y, l[k]? = some y → ¬ y < x) → insV x l = l.take k ++ x :: l.drop k
  | [], k, _, hk, _ => by have : k = 0 := by simpa using hk
                          subst this; rfl
  | z :: l, 0, _, _, h => by
    have := h z rfl
    simp [insV, List.takeWhile_cons, List.dropWhile_cons, this]
  | z :: l, k + 1, h1, hk, h2 => by
    have hz := h1 0 z (by omega) rfl
    have ih := ins_at (x := x) (l := l) (k := k) (fun j y hj hy => h1 (j + 1) y (by omega) (by simpa using hy)) (by simpa using hk) (fun y hy => h2 y (by simpa using hy))
    unfold insV at ih ⊢
    simp only [List.takeWhile_cons, List.dropWhile_cons, hz, decide_true, if_true, List.take_succ_cons, List.drop_succ_cons, List.cons_append]
    rw [ih]
theorem ins_length (x : Int) (l : List Int) : (insV x l).length = l.length + 1 := by
  rw [insV, List.length_append, List.length_cons]
  have : (l.takeWhile (fun y => decide (y < x)) ++ l.dropWhile (fun y => decide (y < x))).length = l.length := by rw [List.takeWhile_append_dropWhile]
  rw [List.length_append] at this
  omega
theorem sort_step {l : List Int} {i : Nat} (h : i < l.length) : sortV (l.take (i + 1)) = insV l[i] (sortV (l.take i)) := by
  unfold sortV
  rw [List.take_add_one, List.getElem?_eq_getElem h, List.foldl_append]; rfl
theorem sort_length (l : List Int) : (sortV l).length = l.length := by
  have key : ∀ (l o : List Int), (l.foldl (fun o x => insV x o) o).length = o.length + l.length := by
    intro l
    induction l with
    | nil => intro o; simp
    | cons x l ih => intro o; simp only [List.foldl_cons]; rw [ih, ins_length, List.length_cons]; omega
  have := key l []
  simpa [sortV] using this
theorem sort_three (a b c : Int) (n : Int) (ha : 0 ≤ a ∧ a ≤ n) (hb : 0 ≤ b ∧ b ≤ n) (hc : 0 ≤ c ∧ c ≤ n) : ∃ p q r : Nat, sortV [a, b, c] = [(p : Int), (q : Int), (r : Int)] ∧ p ≤ q ∧ q ≤ r ∧ (r : Int) ≤ n := by
  obtain ⟨a, rfl⟩ := Int.eq_ofNat_of_zero_le ha.1
  obtain ⟨b, rfl⟩ := Int.eq_ofNat_of_zero_le hb.1
  obtain ⟨c, rfl⟩ := Int.eq_ofNat_of_zero_le hc.1
  have e1 : sortV [(a : Int)] = [(a : Int)] := rfl
  have e2 : sortV [(a : Int), b, c] = insV c (insV b [(a : Int)]) := rfl
  rw [e2]
  by_cases h1 : (a : Int) < b
  · have : insV (b : Int) [(a : Int)] = [(a : Int), b] := by simp [insV, h1]
    rw [this]
    by_cases h2 : (a : Int) < c
    · by_cases h3 : (b : Int) < c
      · exact ⟨a, b, c, by simp [insV, h2, h3], by omega, by omega, by omega⟩
      · exact ⟨a, c, b, by simp [insV, h2, h3], by omega, by omega, by omega⟩
    · exact ⟨c, a, b, by simp [insV, h2], by omega, by omega, by omega⟩
  · have : insV (b : Int) [(a : Int)] = [(b : Int), a] := by simp [insV, h1]
    rw [this]
    by_cases h2 : (b : Int) < c
    · by_cases h3 : (a : Int) < c
      · exact ⟨b, a, c, by simp [insV, h2, h3], by omega, by omega, by omega⟩
      · exact ⟨b, c, a, by simp [insV, h2, h3], by omega, by omega, by omega⟩
    · exact ⟨c, b, a, by simp [insV, h2], by omega, by omega, by omega⟩

set_option maxRecDepth 100000 in
theorem sorted_ok {κ : World} {L : List Assn} {a : Option Addr} {n c : Nat} {l : List Int} (hm : Sl RI a n c l ∈ L) (hb : l.length ≤ 1000000) (hin : ∀ x ∈ l, inInt x) :
    Ctr Tryd.prog 23 #[.slice a n c] κ L (fun v M => ∃ a' c', v = .slice a' l.length c' ∧ M = Sl RI a' l.length c' (sortV l) :: L) := by
  refine Ctr.enter (vs := [.slice a n c]) (m := 48) Tryd.func23 rfl rfl rfl ?_
  refine SG.sl hm fun hn hc hc63 => ?_
  subst hn
  refine SG.ent (Sl.nil (T := RI)) ?_
  refine SG.seq ?_
  refine SG.region ?_
  refine RL.val (Wanted.free rfl) (V.assign rfl rfl) rfl ?_
  refine RL.nil ?_
  refine SG.seq ?_
  refine SG.region ?_
  refine RL.val (Wanted.free rfl) (V.assign rfl rfl) rfl ?_
  refine RL.nil ?_
  refine SG.seq ?_
  refine SG.seq ?_
  refine SG.region ?_
  refine RL.val (Wanted.free rfl) (V.assign rfl rfl) rfl ?_
  refine RL.nil ?_
  refine SG.block ?_
  refine SG.weaken (SG.loop2 (fun m al M => ∃ (i : Nat) (a3 : Option Addr) (c3 : Nat), i ≤ l.length ∧ m = l.length - i ∧ al = [(0, .slice a l.length c), (3, .slice a3 i c3), (4, vI i)] ∧ M = Sl RI a3 i c3 (sortV (l.take i)) :: L) (m0 := _) ⟨0, none, 0, by omega, rfl, rfl, rfl⟩ ?_) ?_ ?_
  rotate_left
  · repeat (first | exact EnvLe.nil _ | refine EnvLe.cons rfl ?_)
  · repeat (first | exact Ent.refl _ | (apply Ent.cons; (· repeat (first | exact Pick.here | (refine Pick.sl ?_; (· repeat (first | exact List.Mem.head _ | assumption | apply List.Mem.tail))) | apply Pick.there))) | (refine Ent.trans (Ent.drop _ _) ?_))
  rintro _ _ _ ⟨i, a3, c3, hi, rfl, rfl, rfl⟩ ih0
  refine SG.seq ?_
  refine SG.seq ?_
  refine SG.region ?_
  refine RL.val (Wanted.free rfl) (V.move rfl rfl) rfl ?_
  refine RL.val (Wanted.free rfl) (V.move rfl rfl) rfl ?_
  refine RL.val (Wanted.free rfl) (V.len rfl rfl el43.under rfl) rfl ?_
  refine RL.cmp (Wanted.free rfl) (V.bin rfl rfl rfl B.lss) rfl (fun h7 => ?_) (fun h7 => ?_)
  · skip
    refine RL.nil ?_
    refine SG.cond_true rfl ?_
    refine SG.skip ?_
    refine SG.seq ?_
    refine SG.block ?_
    refine SG.seq ?_
    have hsl : (sortV (l.take i)).length = i := by rw [sort_length, List.length_take]; omega
    refine SG.region ?_
    refine RL.val (Wanted.free rfl) (V.assign rfl rfl) rfl ?_
    refine RL.nil ?_
    refine SG.seq ?_
    refine SG.block ?_
    refine SG.weaken (SG.loop2 (fun m al M => ∃ k : Nat, k ≤ i ∧ (∀ j y, j < k → (sortV (l.take i))[j]? = some y → y < l[i]'(by omega)) ∧ m = i - k ∧ al = [(0, .slice a l.length c), (3, .slice a3 i c3), (4, vI i), (5, vI k)] ∧ M = Sl RI a3 i c3 (sortV (l.take i)) :: L) (m0 := _) ⟨0, by omega, fun j y h => by omega, rfl, rfl, rfl⟩ ?_) ?_ ?_
    rotate_left
    · repeat (first | exact EnvLe.nil _ | refine EnvLe.cons rfl ?_)
    · repeat (first | exact Ent.refl _ | (apply Ent.cons; (· repeat (first | exact Pick.here | (refine Pick.sl ?_; (· repeat (first | exact List.Mem.head _ | assumption | apply List.Mem.tail))) | apply Pick.there))) | (refine Ent.trans (Ent.drop _ _) ?_))
    rintro _ _ _ ⟨k, hk, hlo, rfl, rfl, rfl⟩ ih1
    refine SG.seq ?_
    refine SG.seq ?_
    refine SG.drawL 15 15 wide rfl rfl ?_
    refine RH.val 0 rfl (by kernel_rfl) (by kernel_rfl) (by kernel_rfl) (by kernel_rfl) (Wanted.free rfl) (V.move rfl rfl) rfl ?_
    refine RH.val 1 rfl (by kernel_rfl) (by kernel_rfl) (by kernel_rfl) (by kernel_rfl) (Wanted.free rfl) (V.move rfl rfl) rfl ?_
    refine RH.val 2 rfl (by kernel_rfl) (by kernel_rfl) (by kernel_rfl) (by kernel_rfl) (Wanted.free rfl) (V.len rfl rfl el43.under rfl) rfl ?_
    refine RH.cmp 3 rfl (by kernel_rfl) (by kernel_rfl) (by kernel_rfl) (by kernel_rfl) (Wanted.free rfl) (V.bin rfl rfl rfl B.lss) rfl (fun h12 => ?_) (fun h12 => ?_)
    · skip
      refine RH.val 4 rfl (by kernel_rfl) (by kernel_rfl) (by kernel_rfl) (by kernel_rfl) (Wanted.free rfl) (V.move rfl rfl) rfl ?_
      refine RH.val 5 rfl (by kernel_rfl) (by kernel_rfl) (by kernel_rfl) (by kernel_rfl) (Wanted.yes rfl rfl rfl rfl) (V.move rfl rfl) rfl ?_
      refine RH.val 6 rfl (by kernel_rfl) (by kernel_rfl) (by kernel_rfl) (by kernel_rfl) (Wanted.yes rfl rfl rfl rfl) (V.move rfl rfl) rfl ?_
      refine RH.val 7 rfl (by kernel_rfl) (by kernel_rfl) (by kernel_rfl) (by kernel_rfl) (Wanted.yes rfl rfl rfl rfl) (V.indexSl (j := k) rfl el43.slice rfl rfl (by repeat (first | exact List.Mem.head _ | assumption | apply List.Mem.tail)) (by first | rfl | omega) (by omega)) rfl ?_
      refine RH.val 8 rfl (by kernel_rfl) (by kernel_rfl) (by kernel_rfl) (by kernel_rfl) (Wanted.yes rfl rfl rfl rfl) (V.loadSc rfl on3 rfl (by repeat (first | exact List.Mem.head _ | assumption | apply List.Mem.tail)) (List.getElem?_eq_getElem (by omega))) rfl ?_
      refine RH.val 9 rfl (by kernel_rfl) (by kernel_rfl) (by kernel_rfl) (by kernel_rfl) (Wanted.yes rfl rfl rfl rfl) (V.move rfl rfl) rfl ?_
      refine RH.val 10 rfl (by kernel_rfl) (by kernel_rfl) (by kernel_rfl) (by kernel_rfl) (Wanted.yes rfl rfl rfl rfl) (V.move rfl rfl) rfl ?_
      refine RH.val 11 rfl (by kernel_rfl) (by kernel_rfl) (by kernel_rfl) (by kernel_rfl) (Wanted.yes rfl rfl rfl rfl) (V.indexSl (j := i) rfl el43.slice rfl rfl (by repeat (first | exact List.Mem.head _ | assumption | apply List.Mem.tail)) (by first | rfl | omega) (by omega)) rfl ?_
      refine RH.val 12 rfl (by kernel_rfl) (by kernel_rfl) (by kernel_rfl) (by kernel_rfl) (Wanted.yes rfl rfl rfl rfl) (V.loadSc rfl on3 rfl (by repeat (first | exact List.Mem.head _ | assumption | apply List.Mem.tail)) (List.getElem?_eq_getElem (by omega))) rfl ?_
      refine RH.cmp 13 rfl (by kernel_rfl) (by kernel_rfl) (by kernel_rfl) (by kernel_rfl) (Wanted.yes rfl rfl rfl rfl) (V.bin rfl rfl rfl B.lss) rfl (fun h22 => ?_) (fun h22 => ?_)
      · skip
        refine RH.pure 14 rfl (by kernel_rfl) (by kernel_rfl) (by kernel_rfl) (by kernel_rfl) (Wanted.free rfl) (V.pick_true rfl rfl rfl) rfl ?_
        refine RH.done (by kernel_rfl) ?_
        refine SG.cond_true rfl ?_
        refine SG.skip ?_
        refine SG.block ?_
        refine SG.region ?_
        refine RL.val (Wanted.free rfl) (V.move rfl rfl) rfl ?_
        refine RL.val (Wanted.free rfl) (V.bin rfl rfl rfl (B.addI (by omega) (by omega))) rfl ?_
        refine RL.val (Wanted.free rfl) (V.assign rfl rfl) rfl ?_
        refine RL.nil ?_
        refine SG.inBlock ?_
        refine SG.weaken (ih1 _ _ _ ?_ ⟨k + 1, by omega, ?_, rfl, rfl, rfl⟩) ?_ ?_
        · omega
        · intro j y hj hy
          by_cases e : j = k
          · subst e; have := (List.getElem?_eq_some_iff.1 hy).2; omega
          · exact hlo j y (by omega) hy
        · repeat (first | exact EnvLe.nil _ | refine EnvLe.cons rfl ?_)
        · repeat (first | exact Ent.refl _ | (apply Ent.cons; (· repeat (first | exact Pick.here | (refine Pick.sl ?_; (· repeat (first | exact List.Mem.head _ | assumption | apply List.Mem.tail))) | apply Pick.there))) | (refine Ent.trans (Ent.drop _ _) ?_))
      · skip
        refine RH.pure 14 rfl (by kernel_rfl) (by kernel_rfl) (by kernel_rfl) (by kernel_rfl) (Wanted.free rfl) (V.pick_true rfl rfl rfl) rfl ?_
        refine RH.done (by kernel_rfl) ?_
        refine SG.cond_false rfl ?_
        refine SG.exit rfl ?_
        refine SG.seq ?_
        have hins := ins_at (x := l[i]) (l := sortV (l.take i)) (k := k) hlo (by omega) (by intro y hy; first | (have hk := (List.getElem?_eq_some_iff.1 hy).1; omega) | (have hk := (List.getElem?_eq_some_iff.1 hy).2; omega))
        rw [← sort_step (by omega)] at hins
        refine SG.ent (Buf.nil (T := RI) (e := 3)) ?_
        refine SG.region ?_
        refine RL.val (Wanted.free rfl) (V.assign rfl rfl) rfl ?_
        refine RL.nil ?_
        refine SG.seq ?_
        refine SG.region ?_
        refine RL.val (Wanted.free rfl) (V.move rfl rfl) rfl ?_
        refine RL.val (Wanted.free rfl) (V.move rfl rfl) rfl ?_
        refine RL.val (Wanted.free rfl) (V.move rfl rfl) rfl ?_
        refine RL.eff (Wanted.free rfl) (E.slice (hi := k) rfl el43.slice rfl (by repeat (first | exact List.Mem.head _ | assumption | apply List.Mem.tail)) rfl ⟨_, _, rfl, (by first | rfl | omega)⟩ (by omega) (by omega)) rfl ?_
        intro _ _ hK30
        try rw [List.drop_zero] at hK30
        iterate 2 (try rw [Nat.sub_zero] at hK30)
        obtain ⟨a33, rfl, rfl⟩ := hK30
        refine RL.eff (Wanted.free rfl) (E.append (T := RI) rfl rfl rfl el43 el43.noInt rfl rfl (by repeat (first | exact Pick.here | assumption | apply Pick.there)) (Src.sl (by decide) (by repeat (first | exact List.Mem.head _ | assumption | apply List.Mem.tail))) (by first | omega | (simp; omega)) (by first | omega | (simp; omega))) rfl ?_
        intro _ _ hK31
        try rw [List.nil_append] at hK31
        try rw [Nat.zero_add] at hK31
        obtain ⟨a34, c34, rfl, rfl⟩ := hK31
        refine RL.val (Wanted.free rfl) (V.assign rfl rfl) rfl ?_
        refine RL.nil ?_
        refine SG.seq ?_
        have hli : inInt l[i] := hin _ (List.getElem_mem _)
        refine SG.region ?_
        refine RL.val (Wanted.free rfl) (V.move rfl rfl) rfl ?_
        refine RL.val (Wanted.free rfl) (V.move rfl rfl) rfl ?_
        refine RL.val (Wanted.free rfl) (V.move rfl rfl) rfl ?_
        refine RL.val (Wanted.free rfl) (V.indexSl (j := i) rfl el43.slice rfl rfl (by repeat (first | exact List.Mem.head _ | assumption | apply List.Mem.tail)) (by first | rfl | omega) (by omega)) rfl ?_
        refine RL.val (Wanted.free rfl) (V.loadSc rfl on3 rfl (by repeat (first | exact List.Mem.head _ | assumption | apply List.Mem.tail)) (List.getElem?_eq_getElem (by omega))) rfl ?_
        refine RL.eff (Wanted.free rfl) (E.lit1 _ rfl el43.slice ze3 rfl (by decide) (by decide) rfl rfl rfl) rfl ?_
        rintro _ _ ⟨b38, rfl, rfl⟩
        refine RL.eff (Wanted.free rfl) (E.append (T := RI) rfl rfl rfl el43 el43.noInt rfl rfl (by repeat (first | exact Pick.here | assumption | apply Pick.there)) (Src.lit (by repeat (first | exact Pick.here | assumption | apply Pick.there)) (by first | trivial | assumption | omega)) (by first | omega | (simp; omega)) (by first | omega | (simp; omega))) rfl ?_
        intro _ _ hK39
        try rw [List.nil_append] at hK39
        try rw [Nat.zero_add] at hK39
        obtain ⟨a41, c41, rfl, rfl⟩ := hK39
        refine RL.val (Wanted.free rfl) (V.assign rfl rfl) rfl ?_
        refine RL.nil ?_
        refine SG.region ?_
        refine RL.val (Wanted.free rfl) (V.move rfl rfl) rfl ?_
        refine RL.val (Wanted.free rfl) (V.move rfl rfl) rfl ?_
        refine RL.val (Wanted.free rfl) (V.move rfl rfl) rfl ?_
        refine RL.eff (Wanted.free rfl) (E.slice (lo := k) (hi := i) rfl el43.slice rfl (by repeat (first | exact List.Mem.head _ | assumption | apply List.Mem.tail)) ⟨_, _, rfl, (by first | rfl | omega)⟩ rfl (by omega) (by omega)) rfl ?_
        intro _ _ hK44
        try rw [List.drop_zero] at hK44
        iterate 2 (try rw [Nat.sub_zero] at hK44)
        rw [show ((sortV (l.take i)).drop k).take (i - k) = (sortV (l.take i)).drop k from List.take_of_length_le (by simp; omega)] at hK44
        obtain ⟨a45, rfl, rfl⟩ := hK44
        refine RL.eff (Wanted.free rfl) (E.append (T := RI) rfl rfl rfl el43 el43.noInt rfl rfl (by repeat (first | exact Pick.here | assumption | apply Pick.there)) (Src.sl (by decide) (by repeat (first | exact List.Mem.head _ | assumption | apply List.Mem.tail))) (by first | omega | (simp; omega)) (by first | omega | (simp; omega))) rfl ?_
        intro _ _ hK45
        try rw [List.nil_append] at hK45
        try rw [Nat.zero_add] at hK45
        rw [List.append_assoc, List.singleton_append, ← hins, show ((sortV (l.take i)).take k).length + [l[i]].length + ((sortV (l.take i)).drop k).length = i + 1 from by rw [List.length_take, List.length_drop, List.length_singleton]; omega] at hK45
        obtain ⟨a46, c46, rfl, rfl⟩ := hK45
        refine RL.publish (T := RI) (a := a46) Pick.here ?_
        refine RL.val (Wanted.free rfl) (V.assign rfl rfl) rfl ?_
        refine RL.nil ?_
        refine SG.inBlock ?_
        refine SG.region ?_
        refine RL.val (Wanted.free rfl) (V.move rfl rfl) rfl ?_
        refine RL.val (Wanted.free rfl) (V.bin rfl rfl rfl (B.addI (by omega) (by omega))) rfl ?_
        refine RL.val (Wanted.free rfl) (V.assign rfl rfl) rfl ?_
        refine RL.nil ?_
        refine SG.weaken (ih0 _ _ _ ?_ ⟨i + 1, a46, c46, by omega, rfl, rfl, rfl⟩) ?_ ?_
        · omega
        · repeat (first | exact EnvLe.nil _ | refine EnvLe.cons rfl ?_)
        · repeat (first | exact Ent.refl _ | (apply Ent.cons; (· repeat (first | exact Pick.here | (refine Pick.sl ?_; (· repeat (first | exact List.Mem.head _ | assumption | apply List.Mem.tail))) | apply Pick.there))) | (refine Ent.trans (Ent.drop _ _) ?_))
    · skip
      refine RH.val 4 rfl (by kernel_rfl) (by kernel_rfl) (by kernel_rfl) (by kernel_rfl) (Wanted.free rfl) (V.move rfl rfl) rfl ?_
      refine RH.skip 5 rfl (by kernel_rfl) (by kernel_rfl) (by kernel_rfl) (by kernel_rfl) (Wanted.no rfl rfl rfl rfl rfl) rfl ?_
      refine RH.skip 6 rfl (by kernel_rfl) (by kernel_rfl) (by kernel_rfl) (by kernel_rfl) (Wanted.no rfl rfl rfl rfl rfl) rfl ?_
      refine RH.skip 7 rfl (by kernel_rfl) (by kernel_rfl) (by kernel_rfl) (by kernel_rfl) (Wanted.no rfl rfl rfl rfl rfl) rfl ?_
      refine RH.skip 8 rfl (by kernel_rfl) (by kernel_rfl) (by kernel_rfl) (by kernel_rfl) (Wanted.no rfl rfl rfl rfl rfl) rfl ?_
      refine RH.skip 9 rfl (by kernel_rfl) (by kernel_rfl) (by kernel_rfl) (by kernel_rfl) (Wanted.no rfl rfl rfl rfl rfl) rfl ?_
      refine RH.skip 10 rfl (by kernel_rfl) (by kernel_rfl) (by kernel_rfl) (by kernel_rfl) (Wanted.no rfl rfl rfl rfl rfl) rfl ?_
      refine RH.skip 11 rfl (by kernel_rfl) (by kernel_rfl) (by kernel_rfl) (by kernel_rfl) (Wanted.no rfl rfl rfl rfl rfl) rfl ?_
      refine RH.skip 12 rfl (by kernel_rfl) (by kernel_rfl) (by kernel_rfl) (by kernel_rfl) (Wanted.no rfl rfl rfl rfl rfl) rfl ?_
      refine RH.skip 13 rfl (by kernel_rfl) (by kernel_rfl) (by kernel_rfl) (by kernel_rfl) (Wanted.no rfl rfl rfl rfl rfl) rfl ?_
      refine RH.pure 14 rfl (by kernel_rfl) (by kernel_rfl) (by kernel_rfl) (by kernel_rfl) (Wanted.free rfl) (V.pick_false rfl rfl rfl) rfl ?_
      refine RH.done (by kernel_rfl) ?_
      refine SG.cond_false rfl ?_
      refine SG.exit rfl ?_
      refine SG.seq ?_
      have hins := ins_at (x := l[i]) (l := sortV (l.take i)) (k := k) hlo (by omega) (by intro y hy; first | (have hk := (List.getElem?_eq_some_iff.1 hy).1; omega) | (have hk := (List.getElem?_eq_some_iff.1 hy).2; omega))
      rw [← sort_step (by omega)] at hins
      refine SG.ent (Buf.nil (T := RI) (e := 3)) ?_
      refine SG.region ?_
      refine RL.val (Wanted.free rfl) (V.assign rfl rfl) rfl ?_
      refine RL.nil ?_
      refine SG.seq ?_
      refine SG.region ?_
      refine RL.val (Wanted.free rfl) (V.move rfl rfl) rfl ?_
      refine RL.val (Wanted.free rfl) (V.move rfl rfl) rfl ?_
      refine RL.val (Wanted.free rfl) (V.move rfl rfl) rfl ?_
      refine RL.eff (Wanted.free rfl) (E.slice (hi := k) rfl el43.slice rfl (by repeat (first | exact List.Mem.head _ | assumption | apply List.Mem.tail)) rfl ⟨_, _, rfl, (by first | rfl | omega)⟩ (by omega) (by omega)) rfl ?_
      intro _ _ hK55
      try rw [List.drop_zero] at hK55
      iterate 2 (try rw [Nat.sub_zero] at hK55)
      obtain ⟨a33, rfl, rfl⟩ := hK55
      refine RL.eff (Wanted.free rfl) (E.append (T := RI) rfl rfl rfl el43 el43.noInt rfl rfl (by repeat (first | exact Pick.here | assumption | apply Pick.there)) (Src.sl (by decide) (by repeat (first | exact List.Mem.head _ | assumption | apply List.Mem.tail))) (by first | omega | (simp; omega)) (by first | omega | (simp; omega))) rfl ?_
      intro _ _ hK56
      try rw [List.nil_append] at hK56
      try rw [Nat.zero_add] at hK56
      obtain ⟨a34, c34, rfl, rfl⟩ := hK56
      refine RL.val (Wanted.free rfl) (V.assign rfl rfl) rfl ?_
      refine RL.nil ?_
      refine SG.seq ?_
      have hli : inInt l[i] := hin _ (List.getElem_mem _)
      refine SG.region ?_
      refine RL.val (Wanted.free rfl) (V.move rfl rfl) rfl ?_
      refine RL.val (Wanted.free rfl) (V.move rfl rfl) rfl ?_
      refine RL.val (Wanted.free rfl) (V.move rfl rfl) rfl ?_
      refine RL.val (Wanted.free rfl) (V.indexSl (j := i) rfl el43.slice rfl rfl (by repeat (first | exact List.Mem.head _ | assumption | apply List.Mem.tail)) (by first | rfl | omega) (by omega)) rfl ?_
      refine RL.val (Wanted.free rfl) (V.loadSc rfl on3 rfl (by repeat (first | exact List.Mem.head _ | assumption | apply List.Mem.tail)) (List.getElem?_eq_getElem (by omega))) rfl ?_
      refine RL.eff (Wanted.free rfl) (E.lit1 _ rfl el43.slice ze3 rfl (by decide) (by decide) rfl rfl rfl) rfl ?_
      rintro _ _ ⟨b63, rfl, rfl⟩
      refine RL.eff (Wanted.free rfl) (E.append (T := RI) rfl rfl rfl el43 el43.noInt rfl rfl (by repeat (first | exact Pick.here | assumption | apply Pick.there)) (Src.lit (by repeat (first | exact Pick.here | assumption | apply Pick.there)) (by first | trivial | assumption | omega)) (by first | omega | (simp; omega)) (by first | omega | (simp; omega))) rfl ?_
      intro _ _ hK64
      try rw [List.nil_append] at hK64
      try rw [Nat.zero_add] at hK64
      obtain ⟨a41, c41, rfl, rfl⟩ := hK64
      refine RL.val (Wanted.free rfl) (V.assign rfl rfl) rfl ?_
      refine RL.nil ?_
      refine SG.region ?_
      refine RL.val (Wanted.free rfl) (V.move rfl rfl) rfl ?_
      refine RL.val (Wanted.free rfl) (V.move rfl rfl) rfl ?_
      refine RL.val (Wanted.free rfl) (V.move rfl rfl) rfl ?_
      refine RL.eff (Wanted.free rfl) (E.slice (lo := k) (hi := i) rfl el43.slice rfl (by repeat (first | exact List.Mem.head _ | assumption | apply List.Mem.tail)) ⟨_, _, rfl, (by first | rfl | omega)⟩ rfl (by omega) (by omega)) rfl ?_
      intro _ _ hK69
      try rw [List.drop_zero] at hK69
      iterate 2 (try rw [Nat.sub_zero] at hK69)
      rw [show ((sortV (l.take i)).drop k).take (i - k) = (sortV (l.take i)).drop k from List.take_of_length_le (by simp; omega)] at hK69
      obtain ⟨a45, rfl, rfl⟩ := hK69
      refine RL.eff (Wanted.free rfl) (E.append (T := RI) rfl rfl rfl el43 el43.noInt rfl rfl (by repeat (first | exact Pick.here | assumption | apply Pick.there)) (Src.sl (by decide) (by repeat (first | exact List.Mem.head _ | assumption | apply List.Mem.tail))) (by first | omega | (simp; omega)) (by first | omega | (simp; omega))) rfl ?_
      intro _ _ hK70
      try rw [List.nil_append] at hK70
      try rw [Nat.zero_add] at hK70
      rw [List.append_assoc, List.singleton_append, ← hins, show ((sortV (l.take i)).take k).length + [l[i]].length + ((sortV (l.take i)).drop k).length = i + 1 from by rw [List.length_take, List.length_drop, List.length_singleton]; omega] at hK70
      obtain ⟨a46, c46, rfl, rfl⟩ := hK70
      refine RL.publish (T := RI) (a := a46) Pick.here ?_
      refine RL.val (Wanted.free rfl) (V.assign rfl rfl) rfl ?_
      refine RL.nil ?_
      refine SG.inBlock ?_
      refine SG.region ?_
      refine RL.val (Wanted.free rfl) (V.move rfl rfl) rfl ?_
      refine RL.val (Wanted.free rfl) (V.bin rfl rfl rfl (B.addI (by omega) (by omega))) rfl ?_
      refine RL.val (Wanted.free rfl) (V.assign rfl rfl) rfl ?_
      refine RL.nil ?_
      refine SG.weaken (ih0 _ _ _ ?_ ⟨i + 1, a46, c46, by omega, rfl, rfl, rfl⟩) ?_ ?_
      · omega
      · repeat (first | exact EnvLe.nil _ | refine EnvLe.cons rfl ?_)
      · repeat (first | exact Ent.refl _ | (apply Ent.cons; (· repeat (first | exact Pick.here | (refine Pick.sl ?_; (· repeat (first | exact List.Mem.head _ | assumption | apply List.Mem.tail))) | apply Pick.there))) | (refine Ent.trans (Ent.drop _ _) ?_))
  · skip
    refine RL.nil ?_
    refine SG.cond_false rfl ?_
    refine SG.exit rfl ?_
    refine SG.seq ?_
    obtain rfl : i = l.length := by omega
    rw [List.take_length]
    refine SG.region ?_
    refine RL.val (Wanted.free rfl) (V.move rfl rfl) rfl ?_
    refine RL.val (Wanted.free rfl) (V.assign rfl rfl) rfl ?_
    refine RL.nil ?_
    refine SG.retE (Ret.r1 Tryd.func23 rfl (.tmp rfl)) ?_ ⟨_, _, rfl, rfl⟩
    repeat (first | exact Ent.refl _ | (apply Ent.cons; (· repeat (first | exact Pick.here | (refine Pick.sl ?_; (· repeat (first | exact List.Mem.head _ | assumption | apply List.Mem.tail))) | apply Pick.there))) | (refine Ent.trans (Ent.drop _ _) ?_))

end Go.Proofs.YtbljfilkdhgcnaaDoor
