/- The law MerkleExtends. -/
import Derived.Test.YtcbloadpffjkiaaDoorMspoil
import Derived.Test.YtcbloadpffjkiaaDoorMext2
import Derived.Test.YtcbloadpffjkiaaDoorMrext2
import Derived.Test.YtcbloadpffjkiaaDoorLroots
import Derived.Test.YtcbloadpffjkiaaDoorLincl
namespace Go.Proofs.YtcbloadpffjkiaaDoor
open Go.Wk Go.Mk Go.Sha

set_option maxRecDepth 100000 in
set_option maxHeartbeats 2000000 in
theorem extends_law {κ : World} {L : List Assn} {a : Option Addr} {m c : Nat} {p : List Hs} {old root h : Hs} {n i w at_ b : Int} (hm : Sl (RArr8 32) a m c p ∈ L) (ho : old.length = 32) (hr : root.length = 32) (hin : inInt n) (hii : inInt i) (hw : inInt w) (hat : inInt at_) (hbi : inInt b) (hh : h.length = 32) (hT : Tab L) :
    Ctr Tryd.prog 9 #[.agg ((old).map v8).toArray, vI i, .agg ((root).map v8).toArray, vI n, .slice a m c, .agg (vI w :: vI at_ :: vI b :: h.map v8).toArray] κ L (fun v M => v = vB true ∧ M = L) := by
 refine Ctr.enter (vs := [.agg ((old).map v8).toArray, vI i, .agg ((root).map v8).toArray, vI n, .slice a m c, .agg (vI w :: vI at_ :: vI b :: h.map v8).toArray]) (m := 119) Tryd.func9 rfl rfl rfl ?_
 unfold Tab at hT
 refine SG.ent (Sl.nil (T := RArr8 32)) ?_
 have hnl : (rootV []).length = 32 := root_len (l := []) (fun _ h => by cases h)
 have h0i : inInt 0 := by unfold inInt; decide
 refine SG.seq ?_
 refine SG.region ?_
 refine RL.eff (Wanted.free rfl) (E.box (old.map v8) rfl rfl rfl) rfl ?_
 rintro _ _ ⟨b6, rfl, rfl⟩
 refine RL.eff (Wanted.free rfl) (E.box (root.map v8) rfl rfl rfl) rfl ?_
 rintro _ _ ⟨b8, rfl, rfl⟩
 refine RL.eff (Wanted.free rfl) (E.box (vI w :: vI at_ :: vI b :: h.map v8) rfl rfl rfl) rfl ?_
 rintro _ _ ⟨b11, rfl, rfl⟩
 refine RL.val (Wanted.free rfl) (V.assign rfl rfl) rfl ?_
 refine RL.nil ?_
 refine SG.seq ?_
 refine SG.seq ?_
 refine SG.drawL 13 13 wide rfl rfl ?_
 refine RH.val 0 rfl krX krX krX krX (Wanted.free rfl) (V.loadAgg (us := (old).map v8) rfl ag25 rfl pickX (take8 ho) (by rw [List.length_map]; exact ho)) rfl ?_
 refine RH.val 1 rfl krX krX krX krX (Wanted.free rfl) (V.move rfl rfl) rfl ?_
 refine RH.val 2 rfl krX krX krX krX (Wanted.free rfl) (V.loadAgg (us := (root).map v8) rfl ag25 rfl pickX (take8 hr) (by rw [List.length_map]; exact hr)) rfl ?_
 refine RH.val 3 rfl krX krX krX krX (Wanted.free rfl) (V.move rfl rfl) rfl ?_
 refine RH.val 4 rfl krX krX krX krX (Wanted.free rfl) (V.move rfl rfl) rfl ?_
 refine RH.val 6 rfl krX krX krX krX (Wanted.free rfl) (V.loadAgg (us := (old).map v8) rfl ag25 rfl pickX (take8 ho) (by rw [List.length_map]; exact ho)) rfl ?_
 refine RH.val 7 rfl krX krX krX krX (Wanted.free rfl) (V.move rfl rfl) rfl ?_
 refine RH.val 8 rfl krX krX krX krX (Wanted.free rfl) (V.loadAgg (us := (root).map v8) rfl ag25 rfl pickX (take8 hr) (by rw [List.length_map]; exact hr)) rfl ?_
 refine RH.val 9 rfl krX krX krX krX (Wanted.free rfl) (V.move rfl rfl) rfl ?_
 refine RH.val 10 rfl krX krX krX krX (Wanted.free rfl) (V.move rfl rfl) rfl ?_
 refine RH.one (i := 5) krX ?_
 refine RHone.eff rfl (Wanted.free rfl) (E.call rfl go30 rfl (extends_ok (p := p) (old := old) (q := i) (root := root) (n := n) memX (by unfold Tab; repeat (first | exact List.Mem.head _ | assumption | apply List.Mem.tail)) (by assumption) (by assumption) (by unfold inInt at *; omega) (by unfold inInt at *; omega))) rfl ?_
 rintro _ _ ⟨rfl, rfl⟩
 refine ⟨.inr entX, ?_⟩
 refine RH.one (i := 11) krX ?_
 refine RHone.eff rfl (Wanted.free rfl) (E.call rfl go31 rfl (rextends_ok (p := p) (old := old) (q := i) (root := root) (n := n) memX (by unfold Tab; repeat (first | exact List.Mem.head _ | assumption | apply List.Mem.tail)) (by assumption) (by assumption) (by unfold inInt at *; omega) (by unfold inInt at *; omega))) rfl ?_
 rintro _ _ ⟨rfl, rfl⟩
 refine ⟨.inr entX, ?_⟩
 refine RH.cmpF 12 rfl krX krX krX krX (Wanted.free rfl) (V.neqBool rfl ub4 rfl rfl) rfl (by simp) ?_
 refine RH.done krX ?_
 refine SG.cond_false rfl ?_
 refine SG.skip ?_
 refine SG.seq ?_
 refine SG.region ?_
 refine RL.eff (Wanted.free rfl) (E.call rfl go14 rfl (rroot_ok (l := []) memX (by unfold Tab; repeat (first | exact List.Mem.head _ | assumption | apply List.Mem.tail)) (by decide))) rfl ?_
 rintro _ _ ⟨rfl, rfl⟩
 refine RL.eff (Wanted.free rfl) (E.alloc rfl ze25) rfl ?_
 rintro _ _ ⟨b13, rfl, rfl⟩
 refine RL.eff (Wanted.free rfl) (E.storeWhole rfl rfl rfl (by rw [List.length_map]; exact hnl) sz25 pickX (one8 _) (by first | rfl | (rw [List.length_replicate]))) rfl ?_
 rintro _ _ rfl
 refine RL.nil ?_
 refine SG.seq ?_
 refine SG.seq ?_
 refine SG.drawL 9 9 wide rfl rfl ?_
 refine RH.val 0 rfl krX krX krX krX (Wanted.free rfl) (V.loadAgg (us := (rootV []).map v8) rfl ag25 rfl pickX (take8 hnl) (by rw [List.length_map]; exact hnl)) rfl ?_
 refine RH.val 1 rfl krX krX krX krX (Wanted.free rfl) (V.loadAgg (us := (root).map v8) rfl ag25 rfl pickX (take8 hr) (by rw [List.length_map]; exact hr)) rfl ?_
 refine RH.val 2 rfl krX krX krX krX (Wanted.free rfl) (V.move rfl rfl) rfl ?_
 refine RH.val 4 rfl krX krX krX krX (Wanted.free rfl) (V.loadAgg (us := (rootV []).map v8) rfl ag25 rfl pickX (take8 hnl) (by rw [List.length_map]; exact hnl)) rfl ?_
 refine RH.val 5 rfl krX krX krX krX (Wanted.free rfl) (V.loadAgg (us := (root).map v8) rfl ag25 rfl pickX (take8 hr) (by rw [List.length_map]; exact hr)) rfl ?_
 refine RH.val 6 rfl krX krX krX krX (Wanted.free rfl) (V.move rfl rfl) rfl ?_
 refine RH.one (i := 3) krX ?_
 refine RHone.eff rfl (Wanted.free rfl) (E.call rfl go30 rfl (extends_ok (p := []) (old := rootV []) (q := 0) (root := root) (n := n) memX (by unfold Tab; repeat (first | exact List.Mem.head _ | assumption | apply List.Mem.tail)) (by assumption) (by assumption) (by unfold inInt at *; omega) (by unfold inInt at *; omega))) rfl ?_
 rintro _ _ ⟨rfl, rfl⟩
 refine ⟨.inr entX, ?_⟩
 refine RH.one (i := 7) krX ?_
 refine RHone.eff rfl (Wanted.free rfl) (E.call rfl go31 rfl (rextends_ok (p := []) (old := rootV []) (q := 0) (root := root) (n := n) memX (by unfold Tab; repeat (first | exact List.Mem.head _ | assumption | apply List.Mem.tail)) (by assumption) (by assumption) (by unfold inInt at *; omega) (by unfold inInt at *; omega))) rfl ?_
 rintro _ _ ⟨rfl, rfl⟩
 refine ⟨.inr entX, ?_⟩
 refine RH.cmpF 8 rfl krX krX krX krX (Wanted.free rfl) (V.neqBool rfl ub4 rfl rfl) rfl (by simp) ?_
 refine RH.done krX ?_
 refine SG.cond_false rfl ?_
 refine SG.skip ?_
 refine SG.seq ?_
 refine SG.region ?_
 refine RL.val (Wanted.free rfl) (V.move rfl rfl) rfl ?_
 refine RL.eff (Wanted.free rfl) (E.call rfl go12 rfl (some_ok (most := 70) hin (by omega) (by unfold Tab; repeat (first | exact List.Mem.head _ | assumption | apply List.Mem.tail)))) rfl ?_
 rintro _ _ ⟨k, a14, c14, hk, rfl, rfl⟩
 have hsk := some_len k
 have hs32 := some32 (k := k)
 have hgb : (rootV (someV k)).length = 32 := root_len hs32
 refine RL.val (Wanted.free rfl) (V.assign rfl rfl) rfl ?_
 refine RL.nil ?_
 refine SG.seq ?_
 obtain ⟨j, hj, hj2⟩ := aroundV_nat (n := i) (most := ((someV k).length : Int) + 1) (by omega)
 have hga : (rootV ((someV k).take j)).length = 32 := root_len (fun x hx => hs32 x (List.mem_of_mem_take hx))
 refine SG.sl (T := RArr8 32) (a := a14) (l := someV k) memX fun _ hc14 _ => ?_
 refine SG.region ?_
 refine RL.val (Wanted.free rfl) (V.move rfl rfl) rfl ?_
 refine RL.val (Wanted.free rfl) (V.move rfl rfl) rfl ?_
 refine RL.val (Wanted.free rfl) (V.len rfl rfl el22.under rfl) rfl ?_
 refine RL.val (Wanted.free rfl) (V.bin rfl rfl rfl (B.addI (by omega) (by omega))) rfl ?_
 refine RL.eff (Wanted.free rfl) (E.call rfl go16 rfl (around_ok _ _ hii.1 hii.2 (by omega))) rfl ?_
 rintro _ _ ⟨rfl, rfl⟩
 rw [hj]
 refine RL.val (Wanted.free rfl) (V.assign rfl rfl) rfl ?_
 refine RL.nil ?_
 refine SG.seq ?_
 refine SG.region ?_
 refine RL.val (Wanted.free rfl) (V.move rfl rfl) rfl ?_
 refine RL.val (Wanted.free rfl) (V.move rfl rfl) rfl ?_
 refine RL.eff (Wanted.free rfl) (E.call rfl go21 rfl (rGrowth_ok (l := someV k) (i := (j : Int)) memX (by unfold Tab; repeat (first | exact List.Mem.head _ | assumption | apply List.Mem.tail)) (by omega) (by unfold inInt at *; omega))) rfl ?_
 rintro _ _ ⟨a58, c58, rfl, rfl⟩
 have hpl := growL_len (someV k) (j : Int)
 refine RL.val (Wanted.free rfl) (V.move rfl rfl) rfl ?_
 refine RL.val (Wanted.free rfl) (V.extract rfl rfl rfl) rfl ?_
 refine RL.val (Wanted.free rfl) (V.extract rfl rfl rfl) rfl ?_
 refine RL.val (Wanted.free rfl) (V.assign rfl rfl) rfl ?_
 refine RL.val (Wanted.free rfl) (V.assign rfl rfl) rfl ?_
 refine RL.nil ?_
 refine SG.seq ?_
 refine SG.region ?_
 refine RL.val (Wanted.free rfl) (V.move rfl rfl) rfl ?_
 refine RL.val (Wanted.free rfl) (V.loadAgg (us := (vI w :: vI at_ :: vI b :: h.map v8)) rfl ag46 rfl pickX (by rw [List.drop_zero]; exact List.take_of_length_le (by simp [hh])) (by simp [hh])) rfl ?_
 refine RL.eff (Wanted.free rfl) (E.call rfl go29 rfl (spoilt_ok (p := growL (someV k) (j : Int)) memX (by omega) hw hat hbi hh)) rfl ?_
 rintro _ _ ⟨a64, c64, qs, mx, nx, hqs, hx1, hx2, hy1, hy2, rfl, rfl⟩
 refine RL.val (Wanted.free rfl) (V.move rfl rfl) rfl ?_
 refine RL.val (Wanted.free rfl) (V.extract rfl rfl rfl) rfl ?_
 refine RL.val (Wanted.free rfl) (V.extract rfl rfl rfl) rfl ?_
 refine RL.val (Wanted.free rfl) (V.extract rfl rfl rfl) rfl ?_
 refine RL.val (Wanted.free rfl) (V.assign rfl rfl) rfl ?_
 refine RL.val (Wanted.free rfl) (V.assign rfl rfl) rfl ?_
 refine RL.val (Wanted.free rfl) (V.assign rfl rfl) rfl ?_
 refine RL.nil ?_
 refine SG.seq ?_
 refine SG.region ?_
 refine RL.val (Wanted.free rfl) (V.move rfl rfl) rfl ?_
 refine RL.val (Wanted.free rfl) (V.move rfl rfl) rfl ?_
 refine RL.eff (Wanted.free rfl) (E.slice (lo := 0) (hi := j) rfl el22.slice rfl memX rfl ⟨_, _, rfl, (by first | rfl | omega)⟩ (by omega) (by omega)) rfl ?_
 intro _ _ hK57
 try rw [List.drop_zero] at hK57
 iterate 2 (try rw [Nat.sub_zero] at hK57)
 obtain ⟨a57, rfl, rfl⟩ := hK57
 refine RL.eff (Wanted.free rfl) (E.call rfl go14 rfl (rroot_ok (l := (someV k).take j) memX (by unfold Tab; repeat (first | exact List.Mem.head _ | assumption | apply List.Mem.tail)) (by rw [List.length_take]; omega))) rfl ?_
 rintro _ _ ⟨rfl, rfl⟩
 refine RL.eff (Wanted.free rfl) (E.alloc rfl ze25) rfl ?_
 rintro _ _ ⟨b21, rfl, rfl⟩
 refine RL.eff (Wanted.free rfl) (E.storeWhole rfl rfl rfl (by rw [List.length_map]; exact hga) sz25 pickX (one8 _) (by first | rfl | (rw [List.length_replicate]))) rfl ?_
 rintro _ _ rfl
 refine RL.nil ?_
 refine SG.seq ?_
 refine SG.region ?_
 refine RL.val (Wanted.free rfl) (V.move rfl rfl) rfl ?_
 refine RL.eff (Wanted.free rfl) (E.call rfl go14 rfl (rroot_ok (l := someV k) memX (by unfold Tab; repeat (first | exact List.Mem.head _ | assumption | apply List.Mem.tail)) (by omega))) rfl ?_
 rintro _ _ ⟨rfl, rfl⟩
 refine RL.eff (Wanted.free rfl) (E.alloc rfl ze25) rfl ?_
 rintro _ _ ⟨b22, rfl, rfl⟩
 refine RL.eff (Wanted.free rfl) (E.storeWhole rfl rfl rfl (by rw [List.length_map]; exact hgb) sz25 pickX (one8 _) (by first | rfl | (rw [List.length_replicate]))) rfl ?_
 rintro _ _ rfl
 refine RL.nil ?_
 refine SG.seq ?_
 refine SG.drawL 24 24 wide rfl rfl ?_
 refine RH.val 0 rfl krX krX krX krX (Wanted.free rfl) (V.loadAgg (us := (rootV ((someV k).take j)).map v8) rfl ag25 rfl pickX (take8 hga) (by rw [List.length_map]; exact hga)) rfl ?_
 refine RH.val 1 rfl krX krX krX krX (Wanted.free rfl) (V.move rfl rfl) rfl ?_
 refine RH.val 2 rfl krX krX krX krX (Wanted.free rfl) (V.move rfl rfl) rfl ?_
 refine RH.val 3 rfl krX krX krX krX (Wanted.free rfl) (V.bin rfl rfl rfl (B.addI (by omega) (by omega))) rfl ?_
 refine RH.val 4 rfl krX krX krX krX (Wanted.free rfl) (V.loadAgg (us := (rootV (someV k)).map v8) rfl ag25 rfl pickX (take8 hgb) (by rw [List.length_map]; exact hgb)) rfl ?_
 refine RH.val 5 rfl krX krX krX krX (Wanted.free rfl) (V.move rfl rfl) rfl ?_
 refine RH.val 6 rfl krX krX krX krX (Wanted.free rfl) (V.len rfl rfl el22.under rfl) rfl ?_
 refine RH.val 7 rfl krX krX krX krX (Wanted.free rfl) (V.move rfl rfl) rfl ?_
 refine RH.val 8 rfl krX krX krX krX (Wanted.free rfl) (V.bin rfl rfl rfl (B.addI (by omega) (by omega))) rfl ?_
 refine RH.val 9 rfl krX krX krX krX (Wanted.free rfl) (V.move rfl rfl) rfl ?_
 refine RH.val 11 rfl krX krX krX krX (Wanted.free rfl) (V.loadAgg (us := (rootV ((someV k).take j)).map v8) rfl ag25 rfl pickX (take8 hga) (by rw [List.length_map]; exact hga)) rfl ?_
 refine RH.val 12 rfl krX krX krX krX (Wanted.free rfl) (V.move rfl rfl) rfl ?_
 refine RH.val 13 rfl krX krX krX krX (Wanted.free rfl) (V.move rfl rfl) rfl ?_
 refine RH.val 14 rfl krX krX krX krX (Wanted.free rfl) (V.bin rfl rfl rfl (B.addI (by omega) (by omega))) rfl ?_
 refine RH.val 15 rfl krX krX krX krX (Wanted.free rfl) (V.loadAgg (us := (rootV (someV k)).map v8) rfl ag25 rfl pickX (take8 hgb) (by rw [List.length_map]; exact hgb)) rfl ?_
 refine RH.val 16 rfl krX krX krX krX (Wanted.free rfl) (V.move rfl rfl) rfl ?_
 refine RH.val 17 rfl krX krX krX krX (Wanted.free rfl) (V.len rfl rfl el22.under rfl) rfl ?_
 refine RH.val 18 rfl krX krX krX krX (Wanted.free rfl) (V.move rfl rfl) rfl ?_
 refine RH.val 19 rfl krX krX krX krX (Wanted.free rfl) (V.bin rfl rfl rfl (B.addI (by omega) (by omega))) rfl ?_
 refine RH.val 20 rfl krX krX krX krX (Wanted.free rfl) (V.move rfl rfl) rfl ?_
 refine RH.one (i := 10) krX ?_
 refine RHone.eff rfl (Wanted.free rfl) (E.call rfl go30 rfl (extends_ok (p := qs) (old := rootV ((someV k).take j)) (q := ((j : Int) + nx)) (root := rootV (someV k)) (n := (((someV k).length : Int) + mx)) memX (by unfold Tab; repeat (first | exact List.Mem.head _ | assumption | apply List.Mem.tail)) (by assumption) (by assumption) (by unfold inInt at *; omega) (by unfold inInt at *; omega))) rfl ?_
 rintro _ _ ⟨rfl, rfl⟩
 refine ⟨.inr entX, ?_⟩
 refine RH.one (i := 21) krX ?_
 refine RHone.eff rfl (Wanted.free rfl) (E.call rfl go31 rfl (rextends_ok (p := qs) (old := rootV ((someV k).take j)) (q := ((j : Int) + nx)) (root := rootV (someV k)) (n := (((someV k).length : Int) + mx)) memX (by unfold Tab; repeat (first | exact List.Mem.head _ | assumption | apply List.Mem.tail)) (by assumption) (by assumption) (by unfold inInt at *; omega) (by unfold inInt at *; omega))) rfl ?_
 rintro _ _ ⟨rfl, rfl⟩
 refine ⟨.inr entX, ?_⟩
 refine RH.cmpT 22 rfl krX krX krX krX (Wanted.free rfl) (V.eqlBool rfl ub4 rfl rfl) rfl rfl ?_
 refine RH.val 23 rfl krX krX krX krX (Wanted.free rfl) (V.assign rfl rfl) rfl ?_
 refine RH.done krX ?_
 refine SG.seq ?_
 refine SG.drawL 16 16 wide rfl rfl ?_
 refine RH.val 0 rfl krX krX krX krX (Wanted.free rfl) (V.loadAgg (us := (old).map v8) rfl ag25 rfl pickX (take8 ho) (by rw [List.length_map]; exact ho)) rfl ?_
 refine RH.val 1 rfl krX krX krX krX (Wanted.free rfl) (V.move rfl rfl) rfl ?_
 refine RH.val 2 rfl krX krX krX krX (Wanted.free rfl) (V.loadAgg (us := (rootV (someV k)).map v8) rfl ag25 rfl pickX (take8 hgb) (by rw [List.length_map]; exact hgb)) rfl ?_
 refine RH.val 3 rfl krX krX krX krX (Wanted.free rfl) (V.move rfl rfl) rfl ?_
 refine RH.val 4 rfl krX krX krX krX (Wanted.free rfl) (V.len rfl rfl el22.under rfl) rfl ?_
 refine RH.val 5 rfl krX krX krX krX (Wanted.free rfl) (V.move rfl rfl) rfl ?_
 refine RH.val 7 rfl krX krX krX krX (Wanted.free rfl) (V.loadAgg (us := (old).map v8) rfl ag25 rfl pickX (take8 ho) (by rw [List.length_map]; exact ho)) rfl ?_
 refine RH.val 8 rfl krX krX krX krX (Wanted.free rfl) (V.move rfl rfl) rfl ?_
 refine RH.val 9 rfl krX krX krX krX (Wanted.free rfl) (V.loadAgg (us := (rootV (someV k)).map v8) rfl ag25 rfl pickX (take8 hgb) (by rw [List.length_map]; exact hgb)) rfl ?_
 refine RH.val 10 rfl krX krX krX krX (Wanted.free rfl) (V.move rfl rfl) rfl ?_
 refine RH.val 11 rfl krX krX krX krX (Wanted.free rfl) (V.len rfl rfl el22.under rfl) rfl ?_
 refine RH.val 12 rfl krX krX krX krX (Wanted.free rfl) (V.move rfl rfl) rfl ?_
 refine RH.one (i := 6) krX ?_
 refine RHone.eff rfl (Wanted.free rfl) (E.call rfl go30 rfl (extends_ok (p := growL (someV k) (j : Int)) (old := old) (q := (j : Int)) (root := rootV (someV k)) (n := ((someV k).length : Int)) memX (by unfold Tab; repeat (first | exact List.Mem.head _ | assumption | apply List.Mem.tail)) (by assumption) (by assumption) (by unfold inInt at *; omega) (by unfold inInt at *; omega))) rfl ?_
 rintro _ _ ⟨rfl, rfl⟩
 refine ⟨.inr entX, ?_⟩
 refine RH.one (i := 13) krX ?_
 refine RHone.eff rfl (Wanted.free rfl) (E.call rfl go31 rfl (rextends_ok (p := growL (someV k) (j : Int)) (old := old) (q := (j : Int)) (root := rootV (someV k)) (n := ((someV k).length : Int)) memX (by unfold Tab; repeat (first | exact List.Mem.head _ | assumption | apply List.Mem.tail)) (by assumption) (by assumption) (by unfold inInt at *; omega) (by unfold inInt at *; omega))) rfl ?_
 rintro _ _ ⟨rfl, rfl⟩
 refine ⟨.inr entX, ?_⟩
 refine RH.cmpT 14 rfl krX krX krX krX (Wanted.free rfl) (V.eqlBool rfl ub4 rfl rfl) rfl rfl ?_
 refine RH.val 15 rfl krX krX krX krX (Wanted.free rfl) (V.assign rfl rfl) rfl ?_
 refine RH.done krX ?_
 refine SG.seq ?_
 refine SG.region ?_
 refine RL.val (Wanted.free rfl) (V.move rfl rfl) rfl ?_
 refine RL.val (Wanted.free rfl) (V.move rfl rfl) rfl ?_
 refine RL.val (Wanted.yes rfl rfl rfl rfl) (V.move rfl rfl) rfl ?_
 refine RL.val (Wanted.free rfl) (V.pick_true rfl rfl rfl) rfl ?_
 refine RL.val (Wanted.free rfl) (V.move rfl rfl) rfl ?_
 refine RL.eff (Wanted.yes rfl rfl rfl rfl) (E.call rfl go15 rfl (lives_ok (by unfold Tab; repeat (first | exact List.Mem.head _ | assumption | apply List.Mem.tail)))) rfl ?_
 rintro _ _ ⟨rfl, rfl⟩
 refine RL.val (Wanted.free rfl) (V.pick_true rfl rfl rfl) rfl ?_
 refine RL.val (Wanted.free rfl) (V.assign rfl rfl) rfl ?_
 refine RL.nil ?_
 refine SG.retE (Ret.r1 Tryd.func9 rfl (.tmp rfl)) ?_ ⟨rfl, rfl⟩
 exact entX

end Go.Proofs.YtcbloadpffjkiaaDoor
