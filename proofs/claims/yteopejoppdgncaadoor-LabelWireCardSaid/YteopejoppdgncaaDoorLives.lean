/- The examples. -/
import Derived.Test.YteopejoppdgncaaDoorTexts
import Derived.Test.YteopejoppdgncaaDoorLess
import Derived.Test.YteopejoppdgncaaDoorParse
namespace Go.Proofs.YteopejoppdgncaaDoor
open Go.Wk Go.Lb

theorem pv0 : parseV 7 5 [49, 50, 97, 98] = (⟨12, 28⟩, 0) := by decide +kernel
theorem pv1 : parseV 7 5 [48, 49, 50] = (zL, 7) := by decide +kernel
theorem pv2 : parseV 7 5 [49, 50, 65] = (zL, 7) := by decide +kernel
theorem pv3 : parseV 7 5 [97] = (zL, 7) := by decide +kernel
theorem pv4 : parseV 7 5 [50, 48, 48, 48, 48] = (zL, 5) := by decide +kernel
theorem pv5 : parseV 7 5 [49, 122, 122, 122, 122] = (zL, 5) := by decide +kernel
theorem dd12 : Lib.decDigits 12 = [49, 50] := by rw [Lib.decDigits, dif_neg (by decide), Lib.decDigits, dif_pos (by decide)]; rfl
theorem dd7 : Lib.decDigits 7 = [55] := by rw [Lib.decDigits, dif_pos (by decide)]; rfl
theorem let28 : letters 28 = [97, 98] := by rw [letters_pos (by decide), letters_pos (by decide), letters_zero]; rfl
theorem let27 : letters 27 = [97, 97] := by rw [letters_pos (by decide), letters_pos (by decide), letters_zero]; rfl
theorem tx0 : textV ⟨12, 0⟩ = [49, 50] := by rw [textV_ok (by decide)]; show Lib.decDigits 12 ++ letters 0 = _; rw [dd12, letters_zero]; rfl
theorem tx1 : textV ⟨12, 28⟩ = [49, 50, 97, 98] := by rw [textV_ok (by decide)]; show Lib.decDigits 12 ++ letters 28 = _; rw [dd12, let28]; rfl
theorem tx2 : textV ⟨0, 1⟩ = [] := if_neg (by decide)
theorem tx3 : textV ⟨7, 27⟩ = [55, 97, 97] := by rw [textV_ok (by decide)]; show Lib.decDigits 7 ++ letters 27 = _; rw [dd7, let27]; rfl
theorem nx0 : nextV ⟨7, 26⟩ = (⟨7, 27⟩, 0) := by decide +kernel
set_option maxRecDepth 100000 in
set_option maxHeartbeats 1000000 in
theorem lives_ok {κ : World} {L : List Assn} (hT : Glob 0 pows ∈ L) :
    Ctr Tryd.prog 18 #[] κ L (fun v M => v = vB true ∧ M = L) := by
 refine Ctr.enter (vs := []) (m := 104) Tryd.func18 rfl rfl rfl ?_
 refine SG.seq ?_
 refine SG.region ?_
 refine RL.val (Wanted.free rfl) (V.assign rfl rfl) rfl ?_
 refine RL.nil ?_
 refine SG.seq ?_
 refine SG.region ?_
 refine RL.eff (Wanted.free rfl) (E.call rfl go20 rfl (lParse_ok (s := [49, 50, 97, 98]))) rfl ?_
 rintro _ _ ⟨rfl, rfl⟩
 rw [pv0]
 refine RL.val (Wanted.free rfl) (V.move rfl rfl) rfl ?_
 refine RL.val (Wanted.free rfl) (V.extract rfl rfl rfl) rfl ?_
 refine RL.val (Wanted.free rfl) (V.extract rfl rfl rfl) rfl ?_
 refine RL.eff (Wanted.free rfl) (E.alloc rfl ze23) rfl ?_
 rintro _ _ ⟨b1, rfl, rfl⟩
 refine RL.eff (Wanted.free rfl) (E.storeWhole rfl rfl rfl (by rfl) sz23 pickX (by first | (simp [Value.oneCell']; done) | (simp [setAt, Value.oneCell']; done)) (by rfl)) rfl ?_
 rintro _ _ rfl
 refine RL.val (Wanted.free rfl) (V.assign rfl rfl) rfl ?_
 refine RL.nil ?_
 refine SG.seq ?_
 refine SG.region ?_
 refine RL.eff (Wanted.free rfl) (E.call rfl go20 rfl (lParse_ok (s := [48, 49, 50]))) rfl ?_
 rintro _ _ ⟨rfl, rfl⟩
 rw [pv1]
 refine RL.val (Wanted.free rfl) (V.move rfl rfl) rfl ?_
 refine RL.val (Wanted.free rfl) (V.extract rfl rfl rfl) rfl ?_
 refine RL.val (Wanted.free rfl) (V.extract rfl rfl rfl) rfl ?_
 refine RL.eff (Wanted.free rfl) (E.alloc rfl ze23) rfl ?_
 rintro _ _ ⟨b3, rfl, rfl⟩
 refine RL.eff (Wanted.free rfl) (E.storeWhole rfl rfl rfl (by rfl) sz23 pickX (by first | (simp [Value.oneCell']; done) | (simp [setAt, Value.oneCell']; done)) (by rfl)) rfl ?_
 rintro _ _ rfl
 refine RL.val (Wanted.free rfl) (V.assign rfl rfl) rfl ?_
 refine RL.nil ?_
 refine SG.seq ?_
 refine SG.region ?_
 refine RL.eff (Wanted.free rfl) (E.call rfl go20 rfl (lParse_ok (s := [49, 50, 65]))) rfl ?_
 rintro _ _ ⟨rfl, rfl⟩
 rw [pv2]
 refine RL.val (Wanted.free rfl) (V.move rfl rfl) rfl ?_
 refine RL.val (Wanted.free rfl) (V.extract rfl rfl rfl) rfl ?_
 refine RL.val (Wanted.free rfl) (V.extract rfl rfl rfl) rfl ?_
 refine RL.eff (Wanted.free rfl) (E.alloc rfl ze23) rfl ?_
 rintro _ _ ⟨b5, rfl, rfl⟩
 refine RL.eff (Wanted.free rfl) (E.storeWhole rfl rfl rfl (by rfl) sz23 pickX (by first | (simp [Value.oneCell']; done) | (simp [setAt, Value.oneCell']; done)) (by rfl)) rfl ?_
 rintro _ _ rfl
 refine RL.val (Wanted.free rfl) (V.assign rfl rfl) rfl ?_
 refine RL.nil ?_
 refine SG.seq ?_
 refine SG.region ?_
 refine RL.eff (Wanted.free rfl) (E.call rfl go20 rfl (lParse_ok (s := [97]))) rfl ?_
 rintro _ _ ⟨rfl, rfl⟩
 rw [pv3]
 refine RL.val (Wanted.free rfl) (V.move rfl rfl) rfl ?_
 refine RL.val (Wanted.free rfl) (V.extract rfl rfl rfl) rfl ?_
 refine RL.val (Wanted.free rfl) (V.extract rfl rfl rfl) rfl ?_
 refine RL.eff (Wanted.free rfl) (E.alloc rfl ze23) rfl ?_
 rintro _ _ ⟨b7, rfl, rfl⟩
 refine RL.eff (Wanted.free rfl) (E.storeWhole rfl rfl rfl (by rfl) sz23 pickX (by first | (simp [Value.oneCell']; done) | (simp [setAt, Value.oneCell']; done)) (by rfl)) rfl ?_
 rintro _ _ rfl
 refine RL.val (Wanted.free rfl) (V.assign rfl rfl) rfl ?_
 refine RL.nil ?_
 refine SG.seq ?_
 refine SG.region ?_
 refine RL.eff (Wanted.free rfl) (E.call rfl go20 rfl (lParse_ok (s := [50, 48, 48, 48, 48]))) rfl ?_
 rintro _ _ ⟨rfl, rfl⟩
 rw [pv4]
 refine RL.val (Wanted.free rfl) (V.move rfl rfl) rfl ?_
 refine RL.val (Wanted.free rfl) (V.extract rfl rfl rfl) rfl ?_
 refine RL.val (Wanted.free rfl) (V.extract rfl rfl rfl) rfl ?_
 refine RL.eff (Wanted.free rfl) (E.alloc rfl ze23) rfl ?_
 rintro _ _ ⟨b9, rfl, rfl⟩
 refine RL.eff (Wanted.free rfl) (E.storeWhole rfl rfl rfl (by rfl) sz23 pickX (by first | (simp [Value.oneCell']; done) | (simp [setAt, Value.oneCell']; done)) (by rfl)) rfl ?_
 rintro _ _ rfl
 refine RL.val (Wanted.free rfl) (V.assign rfl rfl) rfl ?_
 refine RL.nil ?_
 refine SG.seq ?_
 refine SG.region ?_
 refine RL.eff (Wanted.free rfl) (E.call rfl go20 rfl (lParse_ok (s := [49, 122, 122, 122, 122]))) rfl ?_
 rintro _ _ ⟨rfl, rfl⟩
 rw [pv5]
 refine RL.val (Wanted.free rfl) (V.move rfl rfl) rfl ?_
 refine RL.val (Wanted.free rfl) (V.extract rfl rfl rfl) rfl ?_
 refine RL.val (Wanted.free rfl) (V.extract rfl rfl rfl) rfl ?_
 refine RL.eff (Wanted.free rfl) (E.alloc rfl ze23) rfl ?_
 rintro _ _ ⟨b11, rfl, rfl⟩
 refine RL.eff (Wanted.free rfl) (E.storeWhole rfl rfl rfl (by rfl) sz23 pickX (by first | (simp [Value.oneCell']; done) | (simp [setAt, Value.oneCell']; done)) (by rfl)) rfl ?_
 rintro _ _ rfl
 refine RL.val (Wanted.free rfl) (V.assign rfl rfl) rfl ?_
 refine RL.nil ?_
 refine SG.seq ?_
 refine SG.region ?_
 refine RL.val (Wanted.free rfl) (V.buildS [(0, _), (1, _)] rfl bs23 (by exact ⟨rfl, ⟨_, rfl, rfl⟩, ⟨rfl, ⟨_, rfl, rfl⟩, trivial⟩⟩) rfl) rfl ?_
 refine RL.eff (Wanted.free rfl) (E.call rfl go12 rfl (lNext_ok (l := ⟨7, 26⟩))) rfl ?_
 rintro _ _ ⟨rfl, rfl⟩
 rw [nx0]
 refine RL.val (Wanted.free rfl) (V.move rfl rfl) rfl ?_
 refine RL.val (Wanted.free rfl) (V.extract rfl rfl rfl) rfl ?_
 refine RL.val (Wanted.free rfl) (V.extract rfl rfl rfl) rfl ?_
 refine RL.eff (Wanted.free rfl) (E.alloc rfl ze23) rfl ?_
 rintro _ _ ⟨b13, rfl, rfl⟩
 refine RL.eff (Wanted.free rfl) (E.storeWhole rfl rfl rfl (by rfl) sz23 pickX (by first | (simp [Value.oneCell']; done) | (simp [setAt, Value.oneCell']; done)) (by rfl)) rfl ?_
 rintro _ _ rfl
 refine RL.val (Wanted.free rfl) (V.assign rfl rfl) rfl ?_
 refine RL.nil ?_
 refine SG.seq ?_
 refine SG.seq ?_
 refine SG.region ?_
 refine RL.val (Wanted.free rfl) (V.loadAgg (us := [vI 12, vI 28]) rfl ag23 rfl pickX rfl rfl) rfl ?_
 refine RL.val (Wanted.free rfl) (V.buildS [(0, _), (1, _)] rfl bs23 (by exact ⟨rfl, ⟨_, rfl, rfl⟩, ⟨rfl, ⟨_, rfl, rfl⟩, trivial⟩⟩) rfl) rfl ?_
 refine RL.cmpF (Wanted.free rfl) (V.neqLab (s := ⟨12, 28⟩) (s' := ⟨12, 28⟩) rfl rfl rfl) rfl (fun h => h rfl) ?_
 refine RL.val (Wanted.free rfl) (V.move rfl rfl) rfl ?_
 refine RL.val (Wanted.yes rfl rfl rfl rfl) (V.move rfl rfl) rfl ?_
 refine RL.cmpF (Wanted.yes rfl rfl rfl rfl) (V.bin rfl rfl rfl B.neq) rfl (by decide) ?_
 refine RL.val (Wanted.free rfl) (V.pick_false rfl rfl rfl) rfl ?_
 refine RL.val (Wanted.free rfl) (V.move rfl rfl) rfl ?_
 refine RL.val (Wanted.yes rfl rfl rfl rfl) (V.move rfl rfl) rfl ?_
 refine RL.cmpF (Wanted.yes rfl rfl rfl rfl) (V.bin rfl rfl rfl B.neq) rfl (by decide) ?_
 refine RL.val (Wanted.free rfl) (V.pick_false rfl rfl rfl) rfl ?_
 refine RL.val (Wanted.free rfl) (V.move rfl rfl) rfl ?_
 refine RL.val (Wanted.yes rfl rfl rfl rfl) (V.move rfl rfl) rfl ?_
 refine RL.cmpF (Wanted.yes rfl rfl rfl rfl) (V.bin rfl rfl rfl B.neq) rfl (by decide) ?_
 refine RL.val (Wanted.free rfl) (V.pick_false rfl rfl rfl) rfl ?_
 refine RL.val (Wanted.free rfl) (V.move rfl rfl) rfl ?_
 refine RL.val (Wanted.yes rfl rfl rfl rfl) (V.move rfl rfl) rfl ?_
 refine RL.cmpF (Wanted.yes rfl rfl rfl rfl) (V.bin rfl rfl rfl B.neq) rfl (by decide) ?_
 refine RL.val (Wanted.free rfl) (V.pick_false rfl rfl rfl) rfl ?_
 refine RL.val (Wanted.free rfl) (V.move rfl rfl) rfl ?_
 refine RL.val (Wanted.yes rfl rfl rfl rfl) (V.move rfl rfl) rfl ?_
 refine RL.cmpF (Wanted.yes rfl rfl rfl rfl) (V.bin rfl rfl rfl B.neq) rfl (by decide) ?_
 refine RL.val (Wanted.free rfl) (V.pick_false rfl rfl rfl) rfl ?_
 refine RL.val (Wanted.free rfl) (V.move rfl rfl) rfl ?_
 refine RL.val (Wanted.yes rfl rfl rfl rfl) (V.move rfl rfl) rfl ?_
 refine RL.cmpF (Wanted.yes rfl rfl rfl rfl) (V.bin rfl rfl rfl B.neq) rfl (by decide) ?_
 refine RL.val (Wanted.free rfl) (V.pick_false rfl rfl rfl) rfl ?_
 refine RL.val (Wanted.free rfl) (V.move rfl rfl) rfl ?_
 refine RL.val (Wanted.yes rfl rfl rfl rfl) (V.move rfl rfl) rfl ?_
 refine RL.cmpF (Wanted.yes rfl rfl rfl rfl) (V.bin rfl rfl rfl B.neq) rfl (by decide) ?_
 refine RL.val (Wanted.free rfl) (V.pick_false rfl rfl rfl) rfl ?_
 refine RL.nil ?_
 refine SG.cond_false rfl ?_
 refine SG.skip ?_
 refine SG.seq ?_
 refine SG.region ?_
 refine RL.val (Wanted.free rfl) (V.buildS [(0, _)] rfl bs23 (by exact ⟨rfl, ⟨_, rfl, rfl⟩, trivial⟩) rfl) rfl ?_
 refine RL.eff (Wanted.free rfl) (E.call rfl go16 rfl (lText_ok (l := ⟨12, 0⟩) memX)) rfl ?_
 rintro _ _ ⟨rfl, rfl⟩
 rw [tx0]
 refine RL.cmpT (Wanted.free rfl) (V.bin rfl rfl rfl B.eqlS) rfl rfl ?_
 refine RL.val (Wanted.free rfl) (V.move rfl rfl) rfl ?_
 refine RL.val (Wanted.yes rfl rfl rfl rfl) (V.loadAgg (us := [vI 12, vI 28]) rfl ag23 rfl pickX rfl rfl) rfl ?_
 refine RL.eff (Wanted.yes rfl rfl rfl rfl) (E.call rfl go16 rfl (lText_ok (l := ⟨12, 28⟩) memX)) rfl ?_
 rintro _ _ ⟨rfl, rfl⟩
 rw [tx1]
 refine RL.cmpT (Wanted.yes rfl rfl rfl rfl) (V.bin rfl rfl rfl B.eqlS) rfl rfl ?_
 refine RL.val (Wanted.free rfl) (V.pick_true rfl rfl rfl) rfl ?_
 refine RL.val (Wanted.free rfl) (V.move rfl rfl) rfl ?_
 refine RL.val (Wanted.yes rfl rfl rfl rfl) (V.buildS [(1, _)] rfl bs23 (by exact ⟨rfl, ⟨_, rfl, rfl⟩, trivial⟩) rfl) rfl ?_
 refine RL.eff (Wanted.yes rfl rfl rfl rfl) (E.call rfl go16 rfl (lText_ok (l := ⟨0, 1⟩) memX)) rfl ?_
 rintro _ _ ⟨rfl, rfl⟩
 rw [tx2]
 refine RL.cmpT (Wanted.yes rfl rfl rfl rfl) (V.bin rfl rfl rfl B.eqlS) rfl rfl ?_
 refine RL.val (Wanted.free rfl) (V.pick_true rfl rfl rfl) rfl ?_
 refine RL.val (Wanted.free rfl) (V.move rfl rfl) rfl ?_
 refine RL.val (Wanted.yes rfl rfl rfl rfl) (V.loadAgg (us := [vI 7, vI 27]) rfl ag23 rfl pickX rfl rfl) rfl ?_
 refine RL.eff (Wanted.yes rfl rfl rfl rfl) (E.call rfl go16 rfl (lText_ok (l := ⟨7, 27⟩) memX)) rfl ?_
 rintro _ _ ⟨rfl, rfl⟩
 rw [tx3]
 refine RL.cmpT (Wanted.yes rfl rfl rfl rfl) (V.bin rfl rfl rfl B.eqlS) rfl rfl ?_
 refine RL.val (Wanted.free rfl) (V.pick_true rfl rfl rfl) rfl ?_
 refine RL.val (Wanted.free rfl) (V.move rfl rfl) rfl ?_
 refine RL.val (Wanted.yes rfl rfl rfl rfl) (V.buildS [(0, _), (1, _)] rfl bs23 (by exact ⟨rfl, ⟨_, rfl, rfl⟩, ⟨rfl, ⟨_, rfl, rfl⟩, trivial⟩⟩) rfl) rfl ?_
 refine RL.val (Wanted.yes rfl rfl rfl rfl) (V.buildS [(0, _)] rfl bs23 (by exact ⟨rfl, ⟨_, rfl, rfl⟩, trivial⟩) rfl) rfl ?_
 refine RL.eff (Wanted.yes rfl rfl rfl rfl) (E.call rfl go22 rfl (lLess_ok (a := ⟨12, 3⟩) (b := ⟨13, 0⟩))) rfl ?_
 rintro _ _ ⟨rfl, rfl⟩
 rw [show decide (before ⟨12, 3⟩ ⟨13, 0⟩) = true from by decide]
 refine RL.val (Wanted.free rfl) (V.pick_true rfl rfl rfl) rfl ?_
 refine RL.val (Wanted.free rfl) (V.move rfl rfl) rfl ?_
 refine RL.val (Wanted.yes rfl rfl rfl rfl) (V.buildS [(0, _), (1, _)] rfl bs23 (by exact ⟨rfl, ⟨_, rfl, rfl⟩, ⟨rfl, ⟨_, rfl, rfl⟩, trivial⟩⟩) rfl) rfl ?_
 refine RL.val (Wanted.yes rfl rfl rfl rfl) (V.buildS [(0, _), (1, _)] rfl bs23 (by exact ⟨rfl, ⟨_, rfl, rfl⟩, ⟨rfl, ⟨_, rfl, rfl⟩, trivial⟩⟩) rfl) rfl ?_
 refine RL.eff (Wanted.yes rfl rfl rfl rfl) (E.call rfl go22 rfl (lLess_ok (a := ⟨12, 3⟩) (b := ⟨12, 2⟩))) rfl ?_
 rintro _ _ ⟨rfl, rfl⟩
 rw [show decide (before ⟨12, 3⟩ ⟨12, 2⟩) = false from by decide]
 refine RL.val (Wanted.yes rfl rfl rfl rfl) (V.not rfl rfl) rfl ?_
 refine RL.val (Wanted.free rfl) (V.pick_true rfl rfl rfl) rfl ?_
 refine RL.val (Wanted.free rfl) (V.assign rfl rfl) rfl ?_
 refine RL.nil ?_
 refine SG.retE (Ret.r1 Tryd.func18 rfl (.tmp rfl)) ?_ ⟨rfl, rfl⟩
 exact entX

end Go.Proofs.YteopejoppdgncaaDoor
