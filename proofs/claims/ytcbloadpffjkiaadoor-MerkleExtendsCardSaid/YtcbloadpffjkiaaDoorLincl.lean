/- The law MerkleIncludes. -/
import Derived.Test.YtcbloadpffjkiaaDoorMspoil
import Derived.Test.YtcbloadpffjkiaaDoorMincl
import Derived.Test.YtcbloadpffjkiaaDoorMrincl
import Derived.Test.YtcbloadpffjkiaaDoorLroots
namespace Go.Proofs.YtcbloadpffjkiaaDoor
open Go.Wk Go.Mk Go.Sha

theorem pathL_len (l : List Hs) (i : Int) : (pathL l i).length ≤ l.length := by
  unfold pathL
  split
  · simp
  · exact path_len _ l _ (Nat.le_refl _)
theorem growL_len (l : List Hs) (i : Int) : (growL l i).length ≤ l.length := by
  unfold growL
  split
  · simp
  · exact grow_len _ _ l true (Nat.le_refl _) (by omega) (by omega)
set_option maxRecDepth 100000 in
set_option maxHeartbeats 2000000 in
theorem includes_law {κ : World} {L : List Assn} {a : Option Addr} {m c : Nat} {p : List Hs} {root leaf h : Hs} {n i w at_ b : Int} (hm : Sl (RArr8 32) a m c p ∈ L) (hr : root.length = 32) (hlf : leaf.length = 32) (hin : inInt n) (hii : inInt i) (hw : inInt w) (hat : inInt at_) (hbi : inInt b) (hh : h.length = 32) (hT : Tab L) :
    Ctr Tryd.prog 8 #[.agg ((root).map v8).toArray, vI n, vI i, .agg ((leaf).map v8).toArray, .slice a m c, .agg (vI w :: vI at_ :: vI b :: h.map v8).toArray] κ L (fun v M => v = vB true ∧ M = L) := by
 refine Ctr.enter (vs := [.agg ((root).map v8).toArray, vI n, vI i, .agg ((leaf).map v8).toArray, .slice a m c, .agg (vI w :: vI at_ :: vI b :: h.map v8).toArray]) (m := 112) Tryd.func8 rfl rfl rfl ?_
 unfold Tab at hT
 refine SG.seq ?_
 refine SG.region ?_
 refine RL.eff (Wanted.free rfl) (E.box (root.map v8) rfl rfl rfl) rfl ?_
 rintro _ _ ⟨b6, rfl, rfl⟩
 refine RL.eff (Wanted.free rfl) (E.box (leaf.map v8) rfl rfl rfl) rfl ?_
 rintro _ _ ⟨b9, rfl, rfl⟩
 refine RL.eff (Wanted.free rfl) (E.box (vI w :: vI at_ :: vI b :: h.map v8) rfl rfl rfl) rfl ?_
 rintro _ _ ⟨b11, rfl, rfl⟩
 refine RL.val (Wanted.free rfl) (V.assign rfl rfl) rfl ?_
 refine RL.nil ?_
 refine SG.seq ?_
 refine SG.seq ?_
 refine SG.drawL 13 13 wide rfl rfl ?_
 refine RH.val 0 rfl krX krX krX krX (Wanted.free rfl) (V.loadAgg (us := (root).map v8) rfl ag25 rfl pickX (take8 hr) (by rw [List.length_map]; exact hr)) rfl ?_
 refine RH.val 1 rfl krX krX krX krX (Wanted.free rfl) (V.move rfl rfl) rfl ?_
 refine RH.val 2 rfl krX krX krX krX (Wanted.free rfl) (V.move rfl rfl) rfl ?_
 refine RH.val 3 rfl krX krX krX krX (Wanted.free rfl) (V.loadAgg (us := (leaf).map v8) rfl ag25 rfl pickX (take8 hlf) (by rw [List.length_map]; exact hlf)) rfl ?_
 refine RH.val 4 rfl krX krX krX krX (Wanted.free rfl) (V.move rfl rfl) rfl ?_
 refine RH.val 6 rfl krX krX krX krX (Wanted.free rfl) (V.loadAgg (us := (root).map v8) rfl ag25 rfl pickX (take8 hr) (by rw [List.length_map]; exact hr)) rfl ?_
 refine RH.val 7 rfl krX krX krX krX (Wanted.free rfl) (V.move rfl rfl) rfl ?_
 refine RH.val 8 rfl krX krX krX krX (Wanted.free rfl) (V.move rfl rfl) rfl ?_
 refine RH.val 9 rfl krX krX krX krX (Wanted.free rfl) (V.loadAgg (us := (leaf).map v8) rfl ag25 rfl pickX (take8 hlf) (by rw [List.length_map]; exact hlf)) rfl ?_
 refine RH.val 10 rfl krX krX krX krX (Wanted.free rfl) (V.move rfl rfl) rfl ?_
 refine RH.one (i := 5) krX ?_
 refine RHone.eff rfl (Wanted.free rfl) (E.call rfl go27 rfl (includes_ok (p := p) (n := n) (i := i) memX (by unfold Tab; repeat (first | exact List.Mem.head _ | assumption | apply List.Mem.tail)) (by assumption) (by assumption) (by unfold inInt at *; omega) (by unfold inInt at *; omega))) rfl ?_
 rintro _ _ ⟨rfl, rfl⟩
 refine ⟨.inr entX, ?_⟩
 refine RH.one (i := 11) krX ?_
 refine RHone.eff rfl (Wanted.free rfl) (E.call rfl go28 rfl (rincludes_ok (p := p) (n := n) (i := i) memX (by assumption) (by assumption) (by unfold inInt at *; omega) (by unfold inInt at *; omega))) rfl ?_
 rintro _ _ ⟨rfl, rfl⟩
 refine ⟨.inr entX, ?_⟩
 refine RH.cmpF 12 rfl krX krX krX krX (Wanted.free rfl) (V.neqBool rfl ub4 rfl rfl) rfl (by simp) ?_
 refine RH.done krX ?_
 refine SG.cond_false rfl ?_
 refine SG.skip ?_
 refine SG.seq ?_
 refine SG.region ?_
 refine RL.val (Wanted.free rfl) (V.move rfl rfl) rfl ?_
 refine RL.eff (Wanted.free rfl) (E.call rfl go12 rfl (some_ok (most := 70) hin (by omega) (by unfold Tab; repeat (first | exact List.Mem.head _ | assumption | apply List.Mem.tail)))) rfl ?_
 rintro _ _ ⟨k, a13, c13, hk, rfl, rfl⟩
 have hsk := some_len k
 have hs32 := some32 (k := k)
 have hgl : (rootV (someV k)).length = 32 := root_len hs32
 refine RL.val (Wanted.free rfl) (V.assign rfl rfl) rfl ?_
 refine RL.nil ?_
 refine SG.seq ?_
 refine SG.seq ?_
 refine SG.region ?_
 refine RL.val (Wanted.free rfl) (V.move rfl rfl) rfl ?_
 refine RL.val (Wanted.free rfl) (V.len rfl rfl el22.under rfl) rfl ?_
 refine RL.cmp (Wanted.free rfl) (V.bin rfl rfl rfl B.eql) rfl (fun h22 => ?_) (fun h22 => ?_)
 ·
  refine RL.nil ?_
  refine SG.cond_true rfl ?_
  refine SG.seq ?_
  refine SG.region ?_
  refine RL.eff (Wanted.free rfl) (E.call rfl go15 rfl (lives_ok (by unfold Tab; repeat (first | exact List.Mem.head _ | assumption | apply List.Mem.tail)))) rfl ?_
  rintro _ _ ⟨rfl, rfl⟩
  refine RL.val (Wanted.free rfl) (V.assign rfl rfl) rfl ?_
  refine RL.nil ?_
  refine SG.retE (Ret.r1 Tryd.func8 rfl (.tmp rfl)) ?_ ⟨rfl, rfl⟩
  exact entX
 ·
  refine RL.nil ?_
  refine SG.cond_false rfl ?_
  refine SG.skip ?_
  refine SG.seq ?_
  obtain ⟨q, hq, hq2⟩ := aroundV_nat (n := i) (most := ((someV k).length : Int)) (by omega)
  refine SG.region ?_
  refine RL.val (Wanted.free rfl) (V.move rfl rfl) rfl ?_
  refine RL.val (Wanted.free rfl) (V.move rfl rfl) rfl ?_
  refine RL.val (Wanted.free rfl) (V.len rfl rfl el22.under rfl) rfl ?_
  refine RL.eff (Wanted.free rfl) (E.call rfl go16 rfl (around_ok _ _ hii.1 hii.2 (by omega))) rfl ?_
  rintro _ _ ⟨rfl, rfl⟩
  rw [hq]
  refine RL.val (Wanted.free rfl) (V.assign rfl rfl) rfl ?_
  refine RL.nil ?_
  refine SG.seq ?_
  refine SG.region ?_
  refine RL.val (Wanted.free rfl) (V.move rfl rfl) rfl ?_
  refine RL.val (Wanted.free rfl) (V.move rfl rfl) rfl ?_
  refine RL.eff (Wanted.free rfl) (E.call rfl go18 rfl (rPath_ok (l := someV k) (i := (q : Int)) memX (by unfold Tab; repeat (first | exact List.Mem.head _ | assumption | apply List.Mem.tail)) (by omega) (by unfold inInt at *; omega))) rfl ?_
  rintro _ _ ⟨a49, c49, rfl, rfl⟩
  have hpl := pathL_len (someV k) (q : Int)
  refine RL.val (Wanted.free rfl) (V.move rfl rfl) rfl ?_
  refine RL.val (Wanted.free rfl) (V.extract rfl rfl rfl) rfl ?_
  refine RL.val (Wanted.free rfl) (V.extract rfl rfl rfl) rfl ?_
  refine RL.val (Wanted.free rfl) (V.assign rfl rfl) rfl ?_
  refine RL.val (Wanted.free rfl) (V.assign rfl rfl) rfl ?_
  refine RL.nil ?_
  refine SG.seq ?_
  refine SG.region ?_
  refine RL.val (Wanted.free rfl) (V.move rfl rfl) rfl ?_
  refine RL.val (Wanted.free rfl) (V.loadAgg (us := (vI w :: vI at_ :: vI b :: h.map v8)) rfl ag46 rfl pickX (by rw [List.drop_zero]; exact List.take_of_length_le (by simp [hh])) (by simp [hh])) rfl ?_
  refine RL.eff (Wanted.free rfl) (E.call rfl go29 rfl (spoilt_ok (p := pathL (someV k) (q : Int)) memX (by omega) hw hat hbi hh)) rfl ?_
  rintro _ _ ⟨a55, c55, qs, mx, nx, hqs, hx1, hx2, hy1, hy2, rfl, rfl⟩
  refine RL.val (Wanted.free rfl) (V.move rfl rfl) rfl ?_
  refine RL.val (Wanted.free rfl) (V.extract rfl rfl rfl) rfl ?_
  refine RL.val (Wanted.free rfl) (V.extract rfl rfl rfl) rfl ?_
  refine RL.val (Wanted.free rfl) (V.extract rfl rfl rfl) rfl ?_
  refine RL.val (Wanted.free rfl) (V.assign rfl rfl) rfl ?_
  refine RL.val (Wanted.free rfl) (V.assign rfl rfl) rfl ?_
  refine RL.val (Wanted.free rfl) (V.assign rfl rfl) rfl ?_
  refine RL.nil ?_
  refine SG.seq ?_
  refine SG.region ?_
  refine RL.val (Wanted.free rfl) (V.move rfl rfl) rfl ?_
  refine RL.eff (Wanted.free rfl) (E.call rfl go14 rfl (rroot_ok (l := someV k) memX (by unfold Tab; repeat (first | exact List.Mem.head _ | assumption | apply List.Mem.tail)) (by omega))) rfl ?_
  rintro _ _ ⟨rfl, rfl⟩
  refine RL.eff (Wanted.free rfl) (E.alloc rfl ze25) rfl ?_
  rintro _ _ ⟨b20, rfl, rfl⟩
  refine RL.eff (Wanted.free rfl) (E.storeWhole rfl rfl rfl (by rw [List.length_map]; exact hgl) sz25 pickX (one8 _) (by first | rfl | (rw [List.length_replicate]))) rfl ?_
  rintro _ _ rfl
  refine RL.nil ?_
  refine SG.seq ?_
  obtain ⟨x, hx⟩ : ∃ x, (someV k)[q]? = some x := ⟨_, List.getElem?_eq_getElem (by omega)⟩
  have hxl := hs32 x (List.mem_of_getElem? hx)
  refine SG.drawL 30 30 wide rfl rfl ?_
  refine RH.val 0 rfl krX krX krX krX (Wanted.free rfl) (V.loadAgg (us := (rootV (someV k)).map v8) rfl ag25 rfl pickX (take8 hgl) (by rw [List.length_map]; exact hgl)) rfl ?_
  refine RH.val 1 rfl krX krX krX krX (Wanted.free rfl) (V.move rfl rfl) rfl ?_
  refine RH.val 2 rfl krX krX krX krX (Wanted.free rfl) (V.len rfl rfl el22.under rfl) rfl ?_
  refine RH.val 3 rfl krX krX krX krX (Wanted.free rfl) (V.move rfl rfl) rfl ?_
  refine RH.val 4 rfl krX krX krX krX (Wanted.free rfl) (V.bin rfl rfl rfl (B.addI (by omega) (by omega))) rfl ?_
  refine RH.val 5 rfl krX krX krX krX (Wanted.free rfl) (V.move rfl rfl) rfl ?_
  refine RH.val 6 rfl krX krX krX krX (Wanted.free rfl) (V.move rfl rfl) rfl ?_
  refine RH.val 7 rfl krX krX krX krX (Wanted.free rfl) (V.bin rfl rfl rfl (B.addI (by omega) (by omega))) rfl ?_
  refine RH.val 8 rfl krX krX krX krX (Wanted.free rfl) (V.move rfl rfl) rfl ?_
  refine RH.val 9 rfl krX krX krX krX (Wanted.free rfl) (V.move rfl rfl) rfl ?_
  refine RH.val 10 rfl krX krX krX krX (Wanted.free rfl) (V.indexSl (j := q) rfl el22.slice rfl rfl memX (by first | rfl | omega) (by omega)) rfl ?_
  refine RH.val 11 rfl krX krX krX krX (Wanted.free rfl) (V.loadSlDt rfl ag25 rfl memX hx) rfl ?_
  refine RH.val 12 rfl krX krX krX krX (Wanted.free rfl) (V.move rfl rfl) rfl ?_
  refine RH.val 14 rfl krX krX krX krX (Wanted.free rfl) (V.loadAgg (us := (rootV (someV k)).map v8) rfl ag25 rfl pickX (take8 hgl) (by rw [List.length_map]; exact hgl)) rfl ?_
  refine RH.val 15 rfl krX krX krX krX (Wanted.free rfl) (V.move rfl rfl) rfl ?_
  refine RH.val 16 rfl krX krX krX krX (Wanted.free rfl) (V.len rfl rfl el22.under rfl) rfl ?_
  refine RH.val 17 rfl krX krX krX krX (Wanted.free rfl) (V.move rfl rfl) rfl ?_
  refine RH.val 18 rfl krX krX krX krX (Wanted.free rfl) (V.bin rfl rfl rfl (B.addI (by omega) (by omega))) rfl ?_
  refine RH.val 19 rfl krX krX krX krX (Wanted.free rfl) (V.move rfl rfl) rfl ?_
  refine RH.val 20 rfl krX krX krX krX (Wanted.free rfl) (V.move rfl rfl) rfl ?_
  refine RH.val 21 rfl krX krX krX krX (Wanted.free rfl) (V.bin rfl rfl rfl (B.addI (by omega) (by omega))) rfl ?_
  refine RH.val 22 rfl krX krX krX krX (Wanted.free rfl) (V.move rfl rfl) rfl ?_
  refine RH.val 23 rfl krX krX krX krX (Wanted.free rfl) (V.move rfl rfl) rfl ?_
  refine RH.val 24 rfl krX krX krX krX (Wanted.free rfl) (V.indexSl (j := q) rfl el22.slice rfl rfl memX (by first | rfl | omega) (by omega)) rfl ?_
  refine RH.val 25 rfl krX krX krX krX (Wanted.free rfl) (V.loadSlDt rfl ag25 rfl memX hx) rfl ?_
  refine RH.val 26 rfl krX krX krX krX (Wanted.free rfl) (V.move rfl rfl) rfl ?_
  refine RH.one (i := 13) krX ?_
  refine RHone.eff rfl (Wanted.free rfl) (E.call rfl go27 rfl (includes_ok (p := qs) (n := ((someV k).length : Int) + mx) (i := (q : Int) + nx) memX (by unfold Tab; repeat (first | exact List.Mem.head _ | assumption | apply List.Mem.tail)) (by assumption) (by assumption) (by unfold inInt at *; omega) (by unfold inInt at *; omega))) rfl ?_
  rintro _ _ ⟨rfl, rfl⟩
  refine ⟨.inr entX, ?_⟩
  refine RH.one (i := 27) krX ?_
  refine RHone.eff rfl (Wanted.free rfl) (E.call rfl go28 rfl (rincludes_ok (p := qs) (n := ((someV k).length : Int) + mx) (i := (q : Int) + nx) memX (by assumption) (by assumption) (by unfold inInt at *; omega) (by unfold inInt at *; omega))) rfl ?_
  rintro _ _ ⟨rfl, rfl⟩
  refine ⟨.inr entX, ?_⟩
  refine RH.cmpT 28 rfl krX krX krX krX (Wanted.free rfl) (V.eqlBool rfl ub4 rfl rfl) rfl rfl ?_
  refine RH.val 29 rfl krX krX krX krX (Wanted.free rfl) (V.assign rfl rfl) rfl ?_
  refine RH.done krX ?_
  refine SG.seq ?_
  refine SG.drawL 16 16 wide rfl rfl ?_
  refine RH.val 0 rfl krX krX krX krX (Wanted.free rfl) (V.loadAgg (us := (rootV (someV k)).map v8) rfl ag25 rfl pickX (take8 hgl) (by rw [List.length_map]; exact hgl)) rfl ?_
  refine RH.val 1 rfl krX krX krX krX (Wanted.free rfl) (V.move rfl rfl) rfl ?_
  refine RH.val 2 rfl krX krX krX krX (Wanted.free rfl) (V.len rfl rfl el22.under rfl) rfl ?_
  refine RH.val 3 rfl krX krX krX krX (Wanted.free rfl) (V.move rfl rfl) rfl ?_
  refine RH.val 4 rfl krX krX krX krX (Wanted.free rfl) (V.loadAgg (us := (leaf).map v8) rfl ag25 rfl pickX (take8 hlf) (by rw [List.length_map]; exact hlf)) rfl ?_
  refine RH.val 5 rfl krX krX krX krX (Wanted.free rfl) (V.move rfl rfl) rfl ?_
  refine RH.val 7 rfl krX krX krX krX (Wanted.free rfl) (V.loadAgg (us := (rootV (someV k)).map v8) rfl ag25 rfl pickX (take8 hgl) (by rw [List.length_map]; exact hgl)) rfl ?_
  refine RH.val 8 rfl krX krX krX krX (Wanted.free rfl) (V.move rfl rfl) rfl ?_
  refine RH.val 9 rfl krX krX krX krX (Wanted.free rfl) (V.len rfl rfl el22.under rfl) rfl ?_
  refine RH.val 10 rfl krX krX krX krX (Wanted.free rfl) (V.move rfl rfl) rfl ?_
  refine RH.val 11 rfl krX krX krX krX (Wanted.free rfl) (V.loadAgg (us := (leaf).map v8) rfl ag25 rfl pickX (take8 hlf) (by rw [List.length_map]; exact hlf)) rfl ?_
  refine RH.val 12 rfl krX krX krX krX (Wanted.free rfl) (V.move rfl rfl) rfl ?_
  refine RH.one (i := 6) krX ?_
  refine RHone.eff rfl (Wanted.free rfl) (E.call rfl go27 rfl (includes_ok (p := pathL (someV k) (q : Int)) (n := ((someV k).length : Int)) (i := (q : Int)) memX (by unfold Tab; repeat (first | exact List.Mem.head _ | assumption | apply List.Mem.tail)) (by assumption) (by assumption) (by unfold inInt at *; omega) (by unfold inInt at *; omega))) rfl ?_
  rintro _ _ ⟨rfl, rfl⟩
  refine ⟨.inr entX, ?_⟩
  refine RH.one (i := 13) krX ?_
  refine RHone.eff rfl (Wanted.free rfl) (E.call rfl go28 rfl (rincludes_ok (p := pathL (someV k) (q : Int)) (n := ((someV k).length : Int)) (i := (q : Int)) memX (by assumption) (by assumption) (by unfold inInt at *; omega) (by unfold inInt at *; omega))) rfl ?_
  rintro _ _ ⟨rfl, rfl⟩
  refine ⟨.inr entX, ?_⟩
  refine RH.cmpT 14 rfl krX krX krX krX (Wanted.free rfl) (V.eqlBool rfl ub4 rfl rfl) rfl rfl ?_
  refine RH.val 15 rfl krX krX krX krX (Wanted.free rfl) (V.assign rfl rfl) rfl ?_
  refine RH.done krX ?_
  refine SG.seq ?_
  refine SG.region ?_
  refine RL.val (Wanted.free rfl) (V.move rfl rfl) rfl ?_
  refine RL.val (Wanted.free rfl) (V.move rfl rfl) rfl ?_
  refine RL.val (Wanted.yes rfl rfl rfl rfl) (V.move rfl rfl) rfl ?_
  refine RL.val (Wanted.free rfl) (V.pick_true rfl rfl rfl) rfl ?_
  refine RL.val (Wanted.free rfl) (V.move rfl rfl) rfl ?_
  refine RL.eff (Wanted.yes rfl rfl rfl rfl) (E.call rfl go15 rfl (lives_ok (by unfold Tab; repeat (first | exact List.Mem.head _ | assumption | apply List.Mem.tail)))) rfl ?_
  rintro _ _ ⟨rfl, rfl⟩
  refine RL.val (Wanted.free rfl) (V.pick_true rfl rfl rfl) rfl ?_
  refine RL.val (Wanted.free rfl) (V.assign rfl rfl) rfl ?_
  refine RL.nil ?_
  refine SG.retE (Ret.r1 Tryd.func8 rfl (.tmp rfl)) ?_ ⟨rfl, rfl⟩
  exact entX

end Go.Proofs.YtcbloadpffjkiaaDoor
