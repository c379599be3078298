/- The law MerkleProves. -/
import Derived.Test.YtcbloadpffjkiaaDoorMincl
import Derived.Test.YtcbloadpffjkiaaDoorMext2
import Derived.Test.YtcbloadpffjkiaaDoorLroots
namespace Go.Proofs.YtcbloadpffjkiaaDoor
open Go.Wk Go.Mk Go.Sha

theorem growE_zero {n : Nat} {m : Nat} (h : m ≤ n) : growE n (m : Int) = 0 := if_neg (by omega)
theorem ext_growL {l : List Hs} {m : Nat} (h : l.length ≤ 65536) (hm : m ≤ l.length) : extV (rootV (l.take m)) (m : Int) (rootV l) (l.length : Int) (growL l (m : Int)) = true := by
  rcases Nat.eq_zero_or_pos m with h0 | h0
  · subst h0
    rw [show ((0 : Nat) : Int) = 0 from rfl, (growL_zero l).2, ext_zero (by omega), List.take_zero]
    unfold extZ
    rcases Nat.eq_zero_or_pos l.length with h1 | h1
    · rw [List.eq_nil_of_length_eq_zero h1]; simp
    · simp
      exact .inl h1
  · rw [(growL_ok h0 hm).2]; exact ext_grow h h0 hm
theorem ext_growT {l : List Hs} {j m : Nat} (h : l.length ≤ 65536) (hj : j ≤ l.length) (hm : m ≤ j) : extV (rootV (l.take m)) (m : Int) (rootV (l.take j)) (j : Int) (growL (l.take j) (m : Int)) = true := by
  have hl : (l.take j).length = j := by rw [List.length_take]; omega
  have := ext_growL (l := l.take j) (m := m) (by omega) (by omega)
  rwa [hl, List.take_take, show min m j = m from by omega] at this
set_option maxRecDepth 100000 in
set_option maxHeartbeats 2000000 in
theorem proves_law {κ : World} {L : List Assn} {n x y : Int} (hn : inInt n) (hx : inInt x) (hy : inInt y) (hT : Tab L) :
    Ctr Tryd.prog 10 #[vI n, vI x, vI y] κ L (fun v M => v = vB true ∧ M = L) := by
 refine Ctr.enter (vs := [vI n, vI x, vI y]) (m := 137) Tryd.func10 rfl rfl rfl ?_
 unfold Tab at hT
 refine SG.seq ?_
 refine SG.region ?_
 refine RL.val (Wanted.free rfl) (V.assign rfl rfl) rfl ?_
 refine RL.nil ?_
 refine SG.seq ?_
 refine SG.region ?_
 refine RL.val (Wanted.free rfl) (V.move rfl rfl) rfl ?_
 refine RL.eff (Wanted.free rfl) (E.call rfl go12 rfl (some_ok (most := 70) hn (by omega) (by unfold Tab; repeat (first | exact List.Mem.head _ | assumption | apply List.Mem.tail)))) rfl ?_
 rintro _ _ ⟨k, a7, c7, hk, rfl, rfl⟩
 have hsk := some_len k
 have hs32 := some32 (k := k)
 have hg : (rootV (someV k)).length = 32 := root_len hs32
 refine RL.sl (T := RArr8 32) (a := a7) (l := someV k) memX fun _ hc7 _ => ?_
 refine RL.val (Wanted.free rfl) (V.assign rfl rfl) rfl ?_
 refine RL.nil ?_
 refine SG.seq ?_
 refine SG.region ?_
 refine RL.val (Wanted.free rfl) (V.move rfl rfl) rfl ?_
 refine RL.eff (Wanted.free rfl) (E.call rfl go13 rfl (root_ok (l := someV k) memX (by unfold Tab; repeat (first | exact List.Mem.head _ | assumption | apply List.Mem.tail)) (by omega))) rfl ?_
 rintro _ _ ⟨rfl, rfl⟩
 refine RL.eff (Wanted.free rfl) (E.alloc rfl ze25) rfl ?_
 rintro _ _ ⟨b8, rfl, rfl⟩
 refine RL.eff (Wanted.free rfl) (E.storeWhole rfl rfl rfl (by rw [List.length_map]; exact hg) sz25 pickX (one8 _) (by first | rfl | (rw [List.length_replicate]))) rfl ?_
 rintro _ _ rfl
 refine RL.nil ?_
 refine SG.seq ?_
 refine SG.seq ?_
 refine SG.region ?_
 refine RL.val (Wanted.free rfl) (V.assign rfl rfl) rfl ?_
 refine RL.nil ?_
 refine SG.block ?_
 refine SG.weaken (SG.loop2 (fun m0 al M => ∃ i : Nat, i ≤ (someV k).length ∧ m0 = (someV k).length + 1 - i ∧ al = [(1, vI x), (2, vI y), (7, .slice a7 (someV k).length c7), (8, ptr b8 0), (9, vI i)] ∧ M = Blk b8 25 ((rootV (someV k)).map v8) :: Sl (RArr8 32) a7 (someV k).length c7 (someV k) :: L) (m0 := _) ⟨0, by omega, rfl, rfl, rfl⟩ ?_) ?_ ?_
 rotate_left
 ·
  repeat (first | exact EnvLe.nil _ | refine EnvLe.cons rfl ?_)
 ·
  exact entX
 rintro _ _ _ ⟨i, hi, rfl, rfl, rfl⟩ ih0
 refine SG.seq ?_
 refine SG.seq ?_
 refine SG.region ?_
 refine RL.val (Wanted.free rfl) (V.move rfl rfl) rfl ?_
 refine RL.val (Wanted.free rfl) (V.move rfl rfl) rfl ?_
 refine RL.val (Wanted.free rfl) (V.len rfl rfl el22.under rfl) rfl ?_
 refine RL.cmp (Wanted.free rfl) (V.bin rfl rfl rfl B.lss) rfl (fun h13 => ?_) (fun h13 => ?_)
 ·
  refine RL.nil ?_
  refine SG.cond_true rfl ?_
  refine SG.skip ?_
  refine SG.seq ?_
  refine SG.block ?_
  refine SG.seq ?_
  obtain ⟨z, hz⟩ : ∃ z, (someV k)[i]? = some z := ⟨_, List.getElem?_eq_getElem (by omega)⟩
  have hzl := hs32 z (List.mem_of_getElem? hz)
  obtain ⟨hg1, hg2⟩ := pathL_ok (l := someV k) (i := i) (by omega)
  have hinc := incl_path (l := someV k) (i := i) (x := z) (by omega) hz
  refine SG.region ?_
  refine RL.val (Wanted.free rfl) (V.move rfl rfl) rfl ?_
  refine RL.val (Wanted.free rfl) (V.move rfl rfl) rfl ?_
  refine RL.eff (Wanted.free rfl) (E.call rfl go17 rfl (path_ok (l := someV k) (i := (i : Int)) memX (by unfold Tab; repeat (first | exact List.Mem.head _ | assumption | apply List.Mem.tail)) (by omega) (by unfold inInt at *; omega))) rfl ?_
  rintro _ _ ⟨a34, c34, rfl, rfl⟩
  rw [hg1, hg2]
  refine RL.val (Wanted.free rfl) (V.move rfl rfl) rfl ?_
  refine RL.val (Wanted.free rfl) (V.extract rfl rfl rfl) rfl ?_
  refine RL.val (Wanted.free rfl) (V.extract rfl rfl rfl) rfl ?_
  refine RL.val (Wanted.free rfl) (V.assign rfl rfl) rfl ?_
  refine RL.val (Wanted.free rfl) (V.assign rfl rfl) rfl ?_
  refine RL.nil ?_
  refine SG.seq ?_
  refine SG.drawL 15 15 wide rfl rfl ?_
  refine RH.val 0 rfl krX krX krX krX (Wanted.free rfl) (V.move rfl rfl) rfl ?_
  refine RH.cmpF 1 rfl krX krX krX krX (Wanted.free rfl) (V.bin rfl rfl rfl B.neq) rfl (by omega) ?_
  refine RH.val 2 rfl krX krX krX krX (Wanted.free rfl) (V.move rfl rfl) rfl ?_
  refine RH.val 3 rfl krX krX krX krX (Wanted.yes rfl rfl rfl rfl) (V.loadAgg (us := (rootV (someV k)).map v8) rfl ag25 rfl pickX (take8 hg) (by rw [List.length_map]; exact hg)) rfl ?_
  refine RH.val 4 rfl krX krX krX krX (Wanted.yes rfl rfl rfl rfl) (V.move rfl rfl) rfl ?_
  refine RH.val 5 rfl krX krX krX krX (Wanted.yes rfl rfl rfl rfl) (V.len rfl rfl el22.under rfl) rfl ?_
  refine RH.val 6 rfl krX krX krX krX (Wanted.yes rfl rfl rfl rfl) (V.move rfl rfl) rfl ?_
  refine RH.val 7 rfl krX krX krX krX (Wanted.yes rfl rfl rfl rfl) (V.move rfl rfl) rfl ?_
  refine RH.val 8 rfl krX krX krX krX (Wanted.yes rfl rfl rfl rfl) (V.move rfl rfl) rfl ?_
  refine RH.val 9 rfl krX krX krX krX (Wanted.yes rfl rfl rfl rfl) (V.indexSl (j := i) rfl el22.slice rfl rfl memX (by first | rfl | omega) (by omega)) rfl ?_
  refine RH.val 10 rfl krX krX krX krX (Wanted.yes rfl rfl rfl rfl) (V.loadSlDt rfl ag25 rfl memX hz) rfl ?_
  refine RH.val 11 rfl krX krX krX krX (Wanted.yes rfl rfl rfl rfl) (V.move rfl rfl) rfl ?_
  refine RH.one (i := 12) krX ?_
  refine RHone.eff rfl (Wanted.yes rfl rfl rfl rfl) (E.call rfl go27 rfl (includes_ok (p := pathV (someV k) i) (n := ((someV k).length : Int)) (i := (i : Int)) memX (by unfold Tab; repeat (first | exact List.Mem.head _ | assumption | apply List.Mem.tail)) hg hzl (by unfold inInt at *; omega) (by unfold inInt at *; omega))) rfl ?_
  rintro _ _ ⟨rfl, rfl⟩
  refine ⟨.inr entX, ?_⟩
  rw [hinc]
  refine RH.pure 13 rfl krX krX krX krX (Wanted.yes rfl rfl rfl rfl) (V.not rfl rfl) rfl ?_
  refine RH.pure 14 rfl krX krX krX krX (Wanted.free rfl) (V.pick_false rfl rfl rfl) rfl ?_
  refine RH.done krX ?_
  refine SG.cond_false rfl ?_
  refine SG.skip ?_
  refine SG.inBlock ?_
  refine SG.region ?_
  refine RL.val (Wanted.free rfl) (V.move rfl rfl) rfl ?_
  refine RL.val (Wanted.free rfl) (V.bin rfl rfl rfl (B.addI (by omega) (by omega))) rfl ?_
  refine RL.val (Wanted.free rfl) (V.assign rfl rfl) rfl ?_
  refine RL.nil ?_
  refine SG.weaken (ih0 _ _ _ ?_ ⟨i + 1, by omega, rfl, rfl, rfl⟩) ?_ ?_
  ·
   omega
  ·
   repeat (first | exact EnvLe.nil _ | refine EnvLe.cons rfl ?_)
  ·
   exact entX
 ·
  refine RL.nil ?_
  refine SG.cond_false rfl ?_
  refine SG.exit rfl ?_
  refine SG.seq ?_
  obtain ⟨j, hj, hj2⟩ := aroundV_nat (n := y) (most := ((someV k).length : Int) + 1) (by omega)
  have hgj : (rootV ((someV k).take j)).length = 32 := root_len (fun x hx => hs32 x (List.mem_of_mem_take hx))
  refine SG.region ?_
  refine RL.val (Wanted.free rfl) (V.move rfl rfl) rfl ?_
  refine RL.val (Wanted.free rfl) (V.move rfl rfl) rfl ?_
  refine RL.val (Wanted.free rfl) (V.len rfl rfl el22.under rfl) rfl ?_
  refine RL.val (Wanted.free rfl) (V.bin rfl rfl rfl (B.addI (by omega) (by omega))) rfl ?_
  refine RL.eff (Wanted.free rfl) (E.call rfl go16 rfl (around_ok _ _ hy.1 hy.2 (by omega))) rfl ?_
  rintro _ _ ⟨rfl, rfl⟩
  rw [hj]
  refine RL.val (Wanted.free rfl) (V.assign rfl rfl) rfl ?_
  refine RL.nil ?_
  refine SG.seq ?_
  refine SG.seq ?_
  refine SG.region ?_
  refine RL.val (Wanted.free rfl) (V.assign rfl rfl) rfl ?_
  refine RL.nil ?_
  refine SG.block ?_
  refine SG.weaken (SG.loop2 (fun m1 al M => ∃ m : Nat, m ≤ j + 1 ∧ m1 = j + 2 - m ∧ al = [(1, vI x), (7, .slice a7 (someV k).length c7), (8, ptr b8 0), (12, vI j), (13, vI m)] ∧ M = Blk b8 25 ((rootV (someV k)).map v8) :: Sl (RArr8 32) a7 (someV k).length c7 (someV k) :: L) (m0 := _) ⟨0, by omega, rfl, rfl, rfl⟩ ?_) ?_ ?_
  rotate_left
  ·
   repeat (first | exact EnvLe.nil _ | refine EnvLe.cons rfl ?_)
  ·
   exact entX
  rintro _ _ _ ⟨m, hm, rfl, rfl, rfl⟩ ih1
  refine SG.seq ?_
  refine SG.seq ?_
  refine SG.region ?_
  refine RL.val (Wanted.free rfl) (V.move rfl rfl) rfl ?_
  refine RL.val (Wanted.free rfl) (V.move rfl rfl) rfl ?_
  refine RL.cmp (Wanted.free rfl) (V.bin rfl rfl rfl B.leq) rfl (fun h46 => ?_) (fun h46 => ?_)
  ·
   refine RL.nil ?_
   refine SG.cond_true rfl ?_
   refine SG.skip ?_
   refine SG.seq ?_
   refine SG.block ?_
   refine SG.seq ?_
   have htl : ((someV k).take j).length = j := by rw [List.length_take]; omega
   have hge1 := growE_zero (n := ((someV k).take j).length) (m := m) (by omega)
   have hge2 := growE_zero (n := (someV k).length) (m := j) (by omega)
   have he1 := ext_growT (l := someV k) (j := j) (m := m) (by omega) (by omega) (by omega)
   have he2 := ext_growL (l := someV k) (m := j) (by omega) (by omega)
   have hgm : (rootV ((someV k).take m)).length = 32 := root_len (fun x hx => hs32 x (List.mem_of_mem_take hx))
   refine SG.region ?_
   refine RL.val (Wanted.free rfl) (V.move rfl rfl) rfl ?_
   refine RL.val (Wanted.free rfl) (V.move rfl rfl) rfl ?_
   refine RL.eff (Wanted.free rfl) (E.slice (lo := 0) (hi := j) rfl el22.slice rfl memX rfl ⟨_, _, rfl, (by first | rfl | omega)⟩ (by omega) (by omega)) rfl ?_
   intro _ _ hK49
   try rw [List.drop_zero] at hK49
   iterate 2 (try rw [Nat.sub_zero] at hK49)
   obtain ⟨a49, rfl, rfl⟩ := hK49
   refine RL.val (Wanted.free rfl) (V.move rfl rfl) rfl ?_
   refine RL.eff (Wanted.free rfl) (E.call rfl go20 rfl (growth_ok (l := (someV k).take j) (i := (m : Int)) memX (by unfold Tab; repeat (first | exact List.Mem.head _ | assumption | apply List.Mem.tail)) (by omega) (by unfold inInt at *; omega))) rfl ?_
   rintro _ _ ⟨a67, c67, rfl, rfl⟩
   rw [hge1]
   refine RL.val (Wanted.free rfl) (V.move rfl rfl) rfl ?_
   refine RL.val (Wanted.free rfl) (V.extract rfl rfl rfl) rfl ?_
   refine RL.val (Wanted.free rfl) (V.extract rfl rfl rfl) rfl ?_
   refine RL.val (Wanted.free rfl) (V.assign rfl rfl) rfl ?_
   refine RL.val (Wanted.free rfl) (V.assign rfl rfl) rfl ?_
   refine RL.nil ?_
   refine SG.seq ?_
   refine SG.region ?_
   refine RL.val (Wanted.free rfl) (V.move rfl rfl) rfl ?_
   refine RL.val (Wanted.free rfl) (V.move rfl rfl) rfl ?_
   refine RL.eff (Wanted.free rfl) (E.call rfl go20 rfl (growth_ok (l := someV k) (i := (j : Int)) memX (by unfold Tab; repeat (first | exact List.Mem.head _ | assumption | apply List.Mem.tail)) (by omega) (by unfold inInt at *; omega))) rfl ?_
   rintro _ _ ⟨a73, c73, rfl, rfl⟩
   rw [hge2]
   refine RL.val (Wanted.free rfl) (V.move rfl rfl) rfl ?_
   refine RL.val (Wanted.free rfl) (V.extract rfl rfl rfl) rfl ?_
   refine RL.val (Wanted.free rfl) (V.extract rfl rfl rfl) rfl ?_
   refine RL.val (Wanted.free rfl) (V.assign rfl rfl) rfl ?_
   refine RL.val (Wanted.free rfl) (V.assign rfl rfl) rfl ?_
   refine RL.nil ?_
   refine SG.seq ?_
   refine SG.cut (T := RArr8 32) (lo := 0) (hi := m) (l' := (someV k).take m) (a := a7) (l := (someV k)) memX (by omega) (by omega) (by rw [List.drop_zero, Nat.sub_zero]) ?_
   refine SG.cut (T := RArr8 32) (lo := 0) (hi := j) (l' := (someV k).take j) (a := a7) (l := (someV k)) memX (by omega) (by omega) (by rw [List.drop_zero, Nat.sub_zero]) ?_
   refine SG.drawL 34 34 wide rfl rfl ?_
   refine RH.val 0 rfl krX krX krX krX (Wanted.free rfl) (V.move rfl rfl) rfl ?_
   refine RH.cmpF 1 rfl krX krX krX krX (Wanted.free rfl) (V.bin rfl rfl rfl B.neq) rfl (by omega) ?_
   refine RH.val 2 rfl krX krX krX krX (Wanted.free rfl) (V.move rfl rfl) rfl ?_
   refine RH.val 3 rfl krX krX krX krX (Wanted.yes rfl rfl rfl rfl) (V.move rfl rfl) rfl ?_
   refine RH.cmpF 4 rfl krX krX krX krX (Wanted.yes rfl rfl rfl rfl) (V.bin rfl rfl rfl B.neq) rfl (by omega) ?_
   refine RH.pure 5 rfl krX krX krX krX (Wanted.free rfl) (V.pick_false rfl rfl rfl) rfl ?_
   refine RH.val 6 rfl krX krX krX krX (Wanted.free rfl) (V.move rfl rfl) rfl ?_
   refine RH.val 7 rfl krX krX krX krX (Wanted.yes rfl rfl rfl rfl) (V.move rfl rfl) rfl ?_
   refine RH.val 8 rfl krX krX krX krX (Wanted.yes rfl rfl rfl rfl) (V.move rfl rfl) rfl ?_
   refine RH.val 9 rfl krX krX krX krX (Wanted.yes rfl rfl rfl rfl) (V.slice (T := (RArr8 32)) (lo := 0) (hi := m) rfl el22.slice rfl rfl ⟨_, _, rfl, (by first | rfl | omega)⟩ (by omega) (by omega)) rfl ?_
   refine RH.val 11 rfl krX krX krX krX (Wanted.yes rfl rfl rfl rfl) (V.move rfl rfl) rfl ?_
   refine RH.val 12 rfl krX krX krX krX (Wanted.yes rfl rfl rfl rfl) (V.move rfl rfl) rfl ?_
   refine RH.val 13 rfl krX krX krX krX (Wanted.yes rfl rfl rfl rfl) (V.move rfl rfl) rfl ?_
   refine RH.val 14 rfl krX krX krX krX (Wanted.yes rfl rfl rfl rfl) (V.slice (T := (RArr8 32)) (lo := 0) (hi := j) rfl el22.slice rfl rfl ⟨_, _, rfl, (by first | rfl | omega)⟩ (by omega) (by omega)) rfl ?_
   refine RH.val 16 rfl krX krX krX krX (Wanted.yes rfl rfl rfl rfl) (V.move rfl rfl) rfl ?_
   refine RH.val 17 rfl krX krX krX krX (Wanted.yes rfl rfl rfl rfl) (V.move rfl rfl) rfl ?_
   refine RH.one (i := 10) krX ?_
   refine RHone.eff rfl (Wanted.yes rfl rfl rfl rfl) (E.call rfl go13 rfl (root_ok (l := (someV k).take m) memX (by unfold Tab; repeat (first | exact List.Mem.head _ | assumption | apply List.Mem.tail)) (by rw [List.length_take]; omega))) rfl ?_
   rintro _ _ ⟨rfl, rfl⟩
   refine ⟨.inr entX, ?_⟩
   refine RH.one (i := 15) krX ?_
   refine RHone.eff rfl (Wanted.yes rfl rfl rfl rfl) (E.call rfl go13 rfl (root_ok (l := (someV k).take j) memX (by unfold Tab; repeat (first | exact List.Mem.head _ | assumption | apply List.Mem.tail)) (by rw [List.length_take]; omega))) rfl ?_
   rintro _ _ ⟨rfl, rfl⟩
   refine ⟨.inr entX, ?_⟩
   refine RH.one (i := 18) krX ?_
   refine RHone.eff rfl (Wanted.yes rfl rfl rfl rfl) (E.call rfl go30 rfl (extends_ok (p := growL ((someV k).take j) (m : Int)) (old := rootV ((someV k).take m)) (q := (m : Int)) (root := rootV ((someV k).take j)) (n := (j : Int)) memX (by unfold Tab; repeat (first | exact List.Mem.head _ | assumption | apply List.Mem.tail)) (by assumption) (by assumption) (by unfold inInt at *; omega) (by unfold inInt at *; omega))) rfl ?_
   rintro _ _ ⟨rfl, rfl⟩
   refine ⟨.inr entX, ?_⟩
   rw [he1]
   refine RH.pure 19 rfl krX krX krX krX (Wanted.yes rfl rfl rfl rfl) (V.not rfl rfl) rfl ?_
   refine RH.pure 20 rfl krX krX krX krX (Wanted.free rfl) (V.pick_false rfl rfl rfl) rfl ?_
   refine RH.val 21 rfl krX krX krX krX (Wanted.free rfl) (V.move rfl rfl) rfl ?_
   refine RH.val 22 rfl krX krX krX krX (Wanted.yes rfl rfl rfl rfl) (V.move rfl rfl) rfl ?_
   refine RH.val 23 rfl krX krX krX krX (Wanted.yes rfl rfl rfl rfl) (V.move rfl rfl) rfl ?_
   refine RH.val 24 rfl krX krX krX krX (Wanted.yes rfl rfl rfl rfl) (V.slice (T := (RArr8 32)) (lo := 0) (hi := j) rfl el22.slice rfl rfl ⟨_, _, rfl, (by first | rfl | omega)⟩ (by omega) (by omega)) rfl ?_
   refine RH.val 26 rfl krX krX krX krX (Wanted.yes rfl rfl rfl rfl) (V.move rfl rfl) rfl ?_
   refine RH.val 27 rfl krX krX krX krX (Wanted.yes rfl rfl rfl rfl) (V.loadAgg (us := (rootV (someV k)).map v8) rfl ag25 rfl pickX (take8 hg) (by rw [List.length_map]; exact hg)) rfl ?_
   refine RH.val 28 rfl krX krX krX krX (Wanted.yes rfl rfl rfl rfl) (V.move rfl rfl) rfl ?_
   refine RH.val 29 rfl krX krX krX krX (Wanted.yes rfl rfl rfl rfl) (V.len rfl rfl el22.under rfl) rfl ?_
   refine RH.val 30 rfl krX krX krX krX (Wanted.yes rfl rfl rfl rfl) (V.move rfl rfl) rfl ?_
   refine RH.one (i := 25) krX ?_
   refine RHone.eff rfl (Wanted.yes rfl rfl rfl rfl) (E.call rfl go13 rfl (root_ok (l := (someV k).take j) memX (by unfold Tab; repeat (first | exact List.Mem.head _ | assumption | apply List.Mem.tail)) (by rw [List.length_take]; omega))) rfl ?_
   rintro _ _ ⟨rfl, rfl⟩
   refine ⟨.inr entX, ?_⟩
   refine RH.one (i := 31) krX ?_
   refine RHone.eff rfl (Wanted.yes rfl rfl rfl rfl) (E.call rfl go30 rfl (extends_ok (p := growL (someV k) (j : Int)) (old := rootV ((someV k).take j)) (q := (j : Int)) (root := rootV (someV k)) (n := ((someV k).length : Int)) memX (by unfold Tab; repeat (first | exact List.Mem.head _ | assumption | apply List.Mem.tail)) (by assumption) (by assumption) (by unfold inInt at *; omega) (by unfold inInt at *; omega))) rfl ?_
   rintro _ _ ⟨rfl, rfl⟩
   refine ⟨.inr entX, ?_⟩
   rw [he2]
   refine RH.pure 32 rfl krX krX krX krX (Wanted.yes rfl rfl rfl rfl) (V.not rfl rfl) rfl ?_
   refine RH.pure 33 rfl krX krX krX krX (Wanted.free rfl) (V.pick_false rfl rfl rfl) rfl ?_
   refine RH.done krX ?_
   refine SG.cond_false rfl ?_
   refine SG.skip ?_
   refine SG.inBlock ?_
   refine SG.region ?_
   refine RL.val (Wanted.free rfl) (V.move rfl rfl) rfl ?_
   refine RL.val (Wanted.free rfl) (V.bin rfl rfl rfl (B.addI (by omega) (by omega))) rfl ?_
   refine RL.val (Wanted.free rfl) (V.assign rfl rfl) rfl ?_
   refine RL.nil ?_
   refine SG.weaken (ih1 _ _ _ ?_ ⟨m + 1, by omega, rfl, rfl, rfl⟩) ?_ ?_
   ·
    omega
   ·
    repeat (first | exact EnvLe.nil _ | refine EnvLe.cons rfl ?_)
   ·
    exact entX
  ·
   refine RL.nil ?_
   refine SG.cond_false rfl ?_
   refine SG.exit rfl ?_
   refine SG.seq ?_
   obtain ⟨g, hgg, hg3⟩ := aroundV_nat (n := x) (most := (j : Int) + 1) (by omega)
   have hgl : (rootV ((someV k).take g)).length = 32 := root_len (fun x hx => hs32 x (List.mem_of_mem_take hx))
   have hge3 := growE_zero (n := (someV k).length) (m := g) (by omega)
   have he3 := ext_growL (l := someV k) (m := g) (by omega) (by omega)
   refine SG.region ?_
   refine RL.val (Wanted.free rfl) (V.move rfl rfl) rfl ?_
   refine RL.val (Wanted.free rfl) (V.move rfl rfl) rfl ?_
   refine RL.val (Wanted.free rfl) (V.bin rfl rfl rfl (B.addI (by omega) (by omega))) rfl ?_
   refine RL.eff (Wanted.free rfl) (E.call rfl go16 rfl (around_ok _ _ hx.1 hx.2 (by omega))) rfl ?_
   rintro _ _ ⟨rfl, rfl⟩
   rw [hgg]
   refine RL.val (Wanted.free rfl) (V.assign rfl rfl) rfl ?_
   refine RL.nil ?_
   refine SG.seq ?_
   refine SG.region ?_
   refine RL.val (Wanted.free rfl) (V.move rfl rfl) rfl ?_
   refine RL.val (Wanted.free rfl) (V.move rfl rfl) rfl ?_
   refine RL.eff (Wanted.free rfl) (E.call rfl go20 rfl (growth_ok (l := someV k) (i := (g : Int)) memX (by unfold Tab; repeat (first | exact List.Mem.head _ | assumption | apply List.Mem.tail)) (by omega) (by unfold inInt at *; omega))) rfl ?_
   rintro _ _ ⟨a117, c117, rfl, rfl⟩
   rw [hge3]
   refine RL.val (Wanted.free rfl) (V.move rfl rfl) rfl ?_
   refine RL.val (Wanted.free rfl) (V.extract rfl rfl rfl) rfl ?_
   refine RL.val (Wanted.free rfl) (V.extract rfl rfl rfl) rfl ?_
   refine RL.val (Wanted.free rfl) (V.assign rfl rfl) rfl ?_
   refine RL.val (Wanted.free rfl) (V.assign rfl rfl) rfl ?_
   refine RL.nil ?_
   refine SG.seq ?_
   refine SG.cut (T := RArr8 32) (lo := 0) (hi := g) (l' := (someV k).take g) (a := a7) (l := (someV k)) memX (by omega) (by omega) (by rw [List.drop_zero, Nat.sub_zero]) ?_
   refine SG.drawL 18 18 wide rfl rfl ?_
   refine RH.val 0 rfl krX krX krX krX (Wanted.free rfl) (V.move rfl rfl) rfl ?_
   refine RH.cmpT 1 rfl krX krX krX krX (Wanted.free rfl) (V.bin rfl rfl rfl B.eql) rfl (by omega) ?_
   refine RH.val 2 rfl krX krX krX krX (Wanted.free rfl) (V.move rfl rfl) rfl ?_
   refine RH.val 3 rfl krX krX krX krX (Wanted.yes rfl rfl rfl rfl) (V.move rfl rfl) rfl ?_
   refine RH.val 4 rfl krX krX krX krX (Wanted.yes rfl rfl rfl rfl) (V.move rfl rfl) rfl ?_
   refine RH.val 5 rfl krX krX krX krX (Wanted.yes rfl rfl rfl rfl) (V.slice (T := (RArr8 32)) (lo := 0) (hi := g) rfl el22.slice rfl rfl ⟨_, _, rfl, (by first | rfl | omega)⟩ (by omega) (by omega)) rfl ?_
   refine RH.val 7 rfl krX krX krX krX (Wanted.yes rfl rfl rfl rfl) (V.move rfl rfl) rfl ?_
   refine RH.val 8 rfl krX krX krX krX (Wanted.yes rfl rfl rfl rfl) (V.loadAgg (us := (rootV (someV k)).map v8) rfl ag25 rfl pickX (take8 hg) (by rw [List.length_map]; exact hg)) rfl ?_
   refine RH.val 9 rfl krX krX krX krX (Wanted.yes rfl rfl rfl rfl) (V.move rfl rfl) rfl ?_
   refine RH.val 10 rfl krX krX krX krX (Wanted.yes rfl rfl rfl rfl) (V.len rfl rfl el22.under rfl) rfl ?_
   refine RH.val 11 rfl krX krX krX krX (Wanted.yes rfl rfl rfl rfl) (V.move rfl rfl) rfl ?_
   refine RH.one (i := 6) krX ?_
   refine RHone.eff rfl (Wanted.yes rfl rfl rfl rfl) (E.call rfl go13 rfl (root_ok (l := (someV k).take g) memX (by unfold Tab; repeat (first | exact List.Mem.head _ | assumption | apply List.Mem.tail)) (by rw [List.length_take]; omega))) rfl ?_
   rintro _ _ ⟨rfl, rfl⟩
   refine ⟨.inr entX, ?_⟩
   refine RH.one (i := 12) krX ?_
   refine RHone.eff rfl (Wanted.yes rfl rfl rfl rfl) (E.call rfl go30 rfl (extends_ok (p := growL (someV k) (g : Int)) (old := rootV ((someV k).take g)) (q := (g : Int)) (root := rootV (someV k)) (n := ((someV k).length : Int)) memX (by unfold Tab; repeat (first | exact List.Mem.head _ | assumption | apply List.Mem.tail)) (by assumption) (by assumption) (by unfold inInt at *; omega) (by unfold inInt at *; omega))) rfl ?_
   rintro _ _ ⟨rfl, rfl⟩
   refine ⟨.inr entX, ?_⟩
   rw [he3]
   refine RH.pure 13 rfl krX krX krX krX (Wanted.free rfl) (V.pick_true rfl rfl rfl) rfl ?_
   refine RH.val 14 rfl krX krX krX krX (Wanted.free rfl) (V.move rfl rfl) rfl ?_
   refine RH.one (i := 15) krX ?_
   refine RHone.eff rfl (Wanted.yes rfl rfl rfl rfl) (E.call rfl go15 rfl (lives_ok (by unfold Tab; repeat (first | exact List.Mem.head _ | assumption | apply List.Mem.tail)))) rfl ?_
   rintro _ _ ⟨rfl, rfl⟩
   refine ⟨.inr entX, ?_⟩
   refine RH.pure 16 rfl krX krX krX krX (Wanted.free rfl) (V.pick_true rfl rfl rfl) rfl ?_
   refine RH.val 17 rfl krX krX krX krX (Wanted.free rfl) (V.assign rfl rfl) rfl ?_
   refine RH.done krX ?_
   refine SG.retE (Ret.r1 Tryd.func10 rfl (.tmp rfl)) ?_ ⟨rfl, rfl⟩
   exact entX

end Go.Proofs.YtcbloadpffjkiaaDoor
