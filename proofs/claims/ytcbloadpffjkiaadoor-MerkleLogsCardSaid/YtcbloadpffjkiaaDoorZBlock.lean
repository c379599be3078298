/- The program's block. -/
import Derived.Test.YtcbloadpffjkiaaDoorZRots
namespace Go.Proofs.YtcbloadpffjkiaaDoor
open Go.Wk Go.Sha

set_option maxRecDepth 100000 in
set_option maxHeartbeats 2000000 in
theorem block_ok {κ : World} {L : List Assn} {H : List UInt32} {a : Option Addr} {n c : Nat} {l : List UInt8} (hH : H.length = 8) (hm : Sl R8 a n c l ∈ L) (hl : 64 ≤ l.length) (hT : Tab L) :
    Ctr Tryd.prog 88 #[.agg (H.map v32).toArray, .slice a n c] κ L (fun v M => v = .agg ((block H l).map v32).toArray ∧ M = L) := by
 refine Ctr.enter (vs := [.agg (H.map v32).toArray, .slice a n c]) (m := 182) Tryd.func88 rfl rfl rfl ?_
 unfold Tab at hT
 refine SG.sl hm fun hn hc hc63 => ?_
 subst hn
 refine SG.seq ?_
 refine SG.region ?_
 refine RL.eff (Wanted.free rfl) (E.box _ rfl rfl rfl) rfl ?_
 rintro _ _ ⟨b2, rfl, rfl⟩
 refine RL.eff (Wanted.free rfl) (E.alloc rfl ze109) rfl ?_
 rintro _ _ ⟨b4, rfl, rfl⟩
 refine RL.nil ?_
 refine SG.seq ?_
 refine SG.region ?_
 refine RL.eff (Wanted.free rfl) (E.alloc rfl ze138) rfl ?_
 rintro _ _ ⟨b5, rfl, rfl⟩
 refine RL.ent Blk.zeros ?_
 refine RL.ent (Blk.eqw (l' := wz l 0) rfl) ?_
 refine RL.nil ?_
 refine SG.seq ?_
 refine SG.seq ?_
 refine SG.region ?_
 refine RL.val (Wanted.free rfl) (V.move rfl rfl) rfl ?_
 refine RL.nil ?_
 refine SG.block ?_
 refine SG.weaken (SG.loop2 (fun m al M => ∃ i : Nat, i ≤ 16 ∧ m = 16 - i ∧ al = [(1, .slice a l.length c), (2, ptr b2 0), (4, ptr b4 0), (5, ptr b5 0), (20, vI i)] ∧ M = Blk b5 138 ((wz l i).map v32) :: Blk b4 109 [.int .u32 0, .int .u32 0, .int .u32 0, .int .u32 0, .int .u32 0, .int .u32 0, .int .u32 0, .int .u32 0] :: Blk b2 109 (H.map v32) :: L) (m0 := _) ⟨0, by omega, rfl, rfl, rfl⟩ ?_) ?_ ?_
 rotate_left
 ·
  repeat (first | exact EnvLe.nil _ | refine EnvLe.cons rfl ?_)
 ·
  exact entX
 rintro _ _ _ ⟨i, hi, rfl, rfl, rfl⟩ ih0
 refine SG.seq ?_
 refine SG.region ?_
 refine RL.cmp (Wanted.free rfl) (V.bin rfl rfl rfl B.lss) rfl (fun h5 => ?_) (fun h5 => ?_)
 ·
  refine RL.nil ?_
  refine SG.seq ?_
  refine SG.cond_true rfl ?_
  refine SG.skip ?_
  refine SG.seq ?_
  refine SG.block ?_
  refine SG.seq ?_
  refine SG.region ?_
  refine RL.val (Wanted.free rfl) (V.move rfl rfl) rfl ?_
  refine RL.val (Wanted.free rfl) (V.assign rfl rfl) rfl ?_
  refine RL.nil ?_
  refine SG.seq ?_
  refine SG.region ?_
  refine RL.val (Wanted.free rfl) (V.move rfl rfl) rfl ?_
  refine RL.val (Wanted.free rfl) (V.move rfl rfl) rfl ?_
  refine RL.val (Wanted.free rfl) (V.bin rfl rfl rfl (B.mulI (by omega) (by omega))) rfl ?_
  refine RL.val (Wanted.free rfl) (V.move rfl rfl) rfl ?_
  refine RL.val (Wanted.free rfl) (V.bin rfl rfl rfl (B.mulI (by omega) (by omega))) rfl ?_
  refine RL.val (Wanted.free rfl) (V.bin rfl rfl rfl (B.addI (by omega) (by omega))) rfl ?_
  refine RL.eff (Wanted.free rfl) (E.slice (lo := 4 * i) (hi := 4 * i + 4) rfl el62.slice rfl memX ⟨_, _, rfl, (by first | rfl | omega)⟩ ⟨_, _, rfl, (by first | rfl | omega)⟩ (by omega) (by omega)) rfl ?_
  intro _ _ hK14
  try rw [List.drop_zero] at hK14
  iterate 2 (try rw [Nat.sub_zero] at hK14)
  rw [show 4 * i + 4 - 4 * i = 4 from by omega] at hK14
  obtain ⟨a29, rfl, rfl⟩ := hK14
  refine RL.val (Wanted.free rfl) (V.len rfl rfl el62.under rfl) rfl ?_
  refine RL.val (Wanted.free rfl) (V.move rfl rfl) rfl ?_
  refine RL.nil ?_
  refine SG.block ?_
  rw [show wz l i = wx l i (be ((l.drop (4 * i)).take 0)) from wz_wx (by omega)]
  refine SG.weaken (SG.loop2 (fun m al M => ∃ k : Nat, k ≤ 4 ∧ m = 4 - k ∧ al = [(1, .slice a l.length c), (2, ptr b2 0), (4, ptr b4 0), (5, ptr b5 0), (6, vI i), (20, vI i), (29, .slice a29 4 (c - 4 * i)), (30, vI (4 : Nat)), (31, vI k)] ∧ M = Sl R8 a29 4 (c - 4 * i) ((l.drop (4 * i)).take 4) :: Blk b5 138 ((wx l i (be ((l.drop (4 * i)).take k))).map v32) :: Blk b4 109 [.int .u32 0, .int .u32 0, .int .u32 0, .int .u32 0, .int .u32 0, .int .u32 0, .int .u32 0, .int .u32 0] :: Blk b2 109 (H.map v32) :: L) (m0 := _) ⟨0, by omega, rfl, rfl, rfl⟩ ?_) ?_ ?_
  rotate_left
  ·
   repeat (first | exact EnvLe.nil _ | refine EnvLe.cons rfl ?_)
  ·
   exact entX
  rintro _ _ _ ⟨k, hk, rfl, rfl, rfl⟩ ih1
  refine SG.seq ?_
  refine SG.region ?_
  refine RL.cmp (Wanted.free rfl) (V.bin rfl rfl rfl B.lss) rfl (fun h17 => ?_) (fun h17 => ?_)
  ·
   refine RL.nil ?_
   refine SG.seq ?_
   refine SG.cond_true rfl ?_
   refine SG.skip ?_
   refine SG.seq ?_
   refine SG.block ?_
   refine SG.seq ?_
   refine SG.region ?_
   refine RL.val (Wanted.free rfl) (V.indexSl (j := k) rfl el62.slice rfl rfl memX (by first | rfl | omega) (by simp; omega)) rfl ?_
   refine RL.val (Wanted.free rfl) (V.loadSc rfl on5 rfl memX (List.getElem?_eq_getElem (by simp; omega))) rfl ?_
   refine RL.val (Wanted.free rfl) (V.assign rfl rfl) rfl ?_
   refine RL.nil ?_
   refine SG.region ?_
   refine RL.val (Wanted.free rfl) (V.move rfl rfl) rfl ?_
   refine RL.val (Wanted.free rfl) (V.move rfl rfl) rfl ?_
   refine RL.val (Wanted.free rfl) (V.indexW (j := i) rfl ar138 rfl rfl (by first | rfl | omega) (by omega)) rfl ?_
   refine RL.val (Wanted.free rfl) (V.loadW rfl on108 rfl pickX wx_at) rfl ?_
   refine RL.val (Wanted.free rfl) (V.bin rfl rfl rfl (B.shl32 8 (by decide) (by decide) rfl)) rfl ?_
   refine RL.val (Wanted.free rfl) (V.move rfl rfl) rfl ?_
   refine RL.val (Wanted.free rfl) (V.to32 rfl ⟨_, ui5⟩ ui108 rfl) rfl ?_
   rw [u8to32]
   refine RL.val (Wanted.free rfl) (V.bin rfl rfl rfl (B.or32)) rfl ?_
   rw [be_step (by omega)]
   refine RL.val (Wanted.free rfl) (V.indexW (j := i) rfl ar138 rfl rfl (by first | rfl | omega) (by omega)) rfl ?_
   refine RL.eff (Wanted.free rfl) (E.storeW rfl rfl rfl sz108 pickX (by rw [wx_length (by omega)]; omega)) rfl ?_
   rintro _ _ rfl
   rw [wx_set]
   refine RL.nil ?_
   refine SG.inBlock ?_
   refine SG.region ?_
   refine RL.val (Wanted.free rfl) (V.bin rfl rfl rfl (B.addI (by omega) (by omega))) rfl ?_
   refine RL.val (Wanted.free rfl) (V.move rfl rfl) rfl ?_
   refine RL.nil ?_
   refine SG.weaken (ih1 _ _ _ ?_ ⟨k + 1, by omega, rfl, rfl, rfl⟩) ?_ ?_
   ·
    omega
   ·
    repeat (first | exact EnvLe.nil _ | refine EnvLe.cons rfl ?_)
   ·
    exact entX
  ·
   refine RL.nil ?_
   refine SG.seq ?_
   refine SG.cond_false rfl ?_
   refine SG.exit rfl ?_
   refine SG.inBlock ?_
   refine SG.region ?_
   refine RL.val (Wanted.free rfl) (V.bin rfl rfl rfl (B.addI (by omega) (by omega))) rfl ?_
   refine RL.val (Wanted.free rfl) (V.move rfl rfl) rfl ?_
   refine RL.nil ?_
   obtain rfl : k = 4 := by omega
   refine SG.ent (Ent.trans (Ent.drop _ _) (Blk.eqw (wx_done (by omega) (nxt_lo (by omega)).symm))) ?_
   refine SG.weaken (ih0 _ _ _ ?_ ⟨i + 1, by omega, rfl, rfl, rfl⟩) ?_ ?_
   ·
    omega
   ·
    repeat (first | exact EnvLe.nil _ | refine EnvLe.cons rfl ?_)
   ·
    exact entX
 ·
  refine RL.nil ?_
  refine SG.seq ?_
  refine SG.cond_false rfl ?_
  refine SG.exit rfl ?_
  refine SG.seq ?_
  refine SG.seq ?_
  refine SG.region ?_
  refine RL.val (Wanted.free rfl) (V.assign rfl rfl) rfl ?_
  refine RL.nil ?_
  refine SG.block ?_
  obtain rfl : i = 16 := by omega
  refine SG.weaken (SG.loop2 (fun m al M => ∃ t : Nat, 16 ≤ t ∧ t ≤ 64 ∧ m = 64 - t ∧ al = [(1, .slice a l.length c), (2, ptr b2 0), (4, ptr b4 0), (5, ptr b5 0), (9, vI t)] ∧ M = Blk b5 138 ((wz l t).map v32) :: Blk b4 109 [.int .u32 0, .int .u32 0, .int .u32 0, .int .u32 0, .int .u32 0, .int .u32 0, .int .u32 0, .int .u32 0] :: Blk b2 109 (H.map v32) :: L) (m0 := _) ⟨16, by omega, by omega, rfl, rfl, rfl⟩ ?_) ?_ ?_
  rotate_left
  ·
   repeat (first | exact EnvLe.nil _ | refine EnvLe.cons rfl ?_)
  ·
   exact entX
  rintro _ _ _ ⟨t, ht, ht2, rfl, rfl, rfl⟩ ih2
  refine SG.seq ?_
  refine SG.seq ?_
  refine SG.region ?_
  refine RL.val (Wanted.free rfl) (V.move rfl rfl) rfl ?_
  refine RL.cmp (Wanted.free rfl) (V.bin rfl rfl rfl B.lss) rfl (fun h37 => ?_) (fun h37 => ?_)
  ·
   refine RL.nil ?_
   refine SG.cond_true rfl ?_
   refine SG.skip ?_
   refine SG.seq ?_
   refine SG.block ?_
   refine SG.seq ?_
   rw [wz_wx (by omega)]
   refine SG.drawL 10 10 wide rfl rfl ?_
   refine RH.val 0 rfl krX krX krX krX (Wanted.free rfl) (V.move rfl rfl) rfl ?_
   refine RH.val 1 rfl krX krX krX krX (Wanted.free rfl) (V.bin rfl rfl rfl (B.subI (by omega) (by omega))) rfl ?_
   refine RH.val 2 rfl krX krX krX krX (Wanted.free rfl) (V.indexW (j := t - 15) rfl ar138 rfl rfl (by first | rfl | omega) (by omega)) rfl ?_
   refine RH.val 3 rfl krX krX krX krX (Wanted.free rfl) (V.loadW rfl on108 rfl pickX (wx_get (by omega))) rfl ?_
   refine RH.val 4 rfl krX krX krX krX (Wanted.free rfl) (V.move rfl rfl) rfl ?_
   refine RH.val 5 rfl krX krX krX krX (Wanted.free rfl) (V.bin rfl rfl rfl (B.subI (by omega) (by omega))) rfl ?_
   refine RH.val 6 rfl krX krX krX krX (Wanted.free rfl) (V.indexW (j := t - 2) rfl ar138 rfl rfl (by first | rfl | omega) (by omega)) rfl ?_
   refine RH.val 7 rfl krX krX krX krX (Wanted.free rfl) (V.loadW rfl on108 rfl pickX (wx_get (by omega))) rfl ?_
   refine RH.val 8 rfl krX krX krX krX (Wanted.free rfl) (V.assign rfl rfl) rfl ?_
   refine RH.val 9 rfl krX krX krX krX (Wanted.free rfl) (V.assign rfl rfl) rfl ?_
   refine RH.done krX ?_
   refine SG.seq ?_
   refine SG.drawL 16 15 wide rfl rfl ?_
   refine RH.val 0 rfl krX krX krX krX (Wanted.free rfl) (V.move rfl rfl) rfl ?_
   refine RH.val 1 rfl krX krX krX krX (Wanted.free rfl) (V.move rfl rfl) rfl ?_
   refine RH.val 2 rfl krX krX krX krX (Wanted.free rfl) (V.bin rfl rfl rfl (B.subI (by omega) (by omega))) rfl ?_
   refine RH.val 3 rfl krX krX krX krX (Wanted.free rfl) (V.indexW (j := t - 16) rfl ar138 rfl rfl (by first | rfl | omega) (by omega)) rfl ?_
   refine RH.val 4 rfl krX krX krX krX (Wanted.free rfl) (V.loadW rfl on108 rfl pickX (wx_get (by omega))) rfl ?_
   refine RH.val 5 rfl krX krX krX krX (Wanted.free rfl) (V.move rfl rfl) rfl ?_
   refine RH.val 7 rfl krX krX krX krX (Wanted.free rfl) (V.move rfl rfl) rfl ?_
   refine RH.val 10 rfl krX krX krX krX (Wanted.free rfl) (V.move rfl rfl) rfl ?_
   refine RH.val 11 rfl krX krX krX krX (Wanted.free rfl) (V.bin rfl rfl rfl (B.shr32 3 (by decide) (by decide) rfl)) rfl ?_
   refine RH.one (i := 6) krX ?_
   refine RHone.eff rfl (Wanted.free rfl) (E.call rfl go95 rfl (rotl_ok (r := 7) (by decide) (by decide) (by decide) (by decide) (by decide))) rfl ?_
   rintro _ _ ⟨rfl, rfl⟩
   refine ⟨.inr entX, ?_⟩
   refine RH.one (i := 8) krX ?_
   refine RHone.eff rfl (Wanted.free rfl) (E.call rfl go95 rfl (rotl_ok (r := 18) (by decide) (by decide) (by decide) (by decide) (by decide))) rfl ?_
   rintro _ _ ⟨rfl, rfl⟩
   refine ⟨.inr entX, ?_⟩
   refine RH.val 9 rfl krX krX krX krX (Wanted.free rfl) (V.bin rfl rfl rfl (B.xor32)) rfl ?_
   refine RH.val 12 rfl krX krX krX krX (Wanted.free rfl) (V.bin rfl rfl rfl (B.xor32)) rfl ?_
   refine RH.val 13 rfl krX krX krX krX (Wanted.free rfl) (V.bin rfl rfl rfl (B.add32)) rfl ?_
   refine RH.val 14 rfl krX krX krX krX (Wanted.free rfl) (V.indexW (j := t) rfl ar138 rfl rfl (by first | rfl | omega) (by omega)) rfl ?_
   refine RH.one (i := 15) krX ?_
   refine RHone.eff rfl (Wanted.free rfl) (E.storeW rfl rfl rfl sz108 pickX (by rw [wx_length (by omega)]; omega)) rfl ?_
   rintro _ _ rfl
   refine ⟨.inl krX, ?_⟩
   rw [wx_set]
   refine RH.done krX ?_
   refine SG.drawL 19 18 wide rfl rfl ?_
   refine RH.val 0 rfl krX krX krX krX (Wanted.free rfl) (V.move rfl rfl) rfl ?_
   refine RH.val 1 rfl krX krX krX krX (Wanted.free rfl) (V.indexW (j := t) rfl ar138 rfl rfl (by first | rfl | omega) (by omega)) rfl ?_
   refine RH.val 2 rfl krX krX krX krX (Wanted.free rfl) (V.loadW rfl on108 rfl pickX wx_at) rfl ?_
   refine RH.val 3 rfl krX krX krX krX (Wanted.free rfl) (V.move rfl rfl) rfl ?_
   refine RH.val 4 rfl krX krX krX krX (Wanted.free rfl) (V.bin rfl rfl rfl (B.subI (by omega) (by omega))) rfl ?_
   refine RH.val 5 rfl krX krX krX krX (Wanted.free rfl) (V.indexW (j := t - 7) rfl ar138 rfl rfl (by first | rfl | omega) (by omega)) rfl ?_
   refine RH.val 6 rfl krX krX krX krX (Wanted.free rfl) (V.loadW rfl on108 rfl pickX (wx_get (by omega))) rfl ?_
   refine RH.val 7 rfl krX krX krX krX (Wanted.free rfl) (V.move rfl rfl) rfl ?_
   refine RH.val 9 rfl krX krX krX krX (Wanted.free rfl) (V.move rfl rfl) rfl ?_
   refine RH.val 12 rfl krX krX krX krX (Wanted.free rfl) (V.move rfl rfl) rfl ?_
   refine RH.val 13 rfl krX krX krX krX (Wanted.free rfl) (V.bin rfl rfl rfl (B.shr32 10 (by decide) (by decide) rfl)) rfl ?_
   refine RH.one (i := 8) krX ?_
   refine RHone.eff rfl (Wanted.free rfl) (E.call rfl go95 rfl (rotl_ok (r := 17) (by decide) (by decide) (by decide) (by decide) (by decide))) rfl ?_
   rintro _ _ ⟨rfl, rfl⟩
   refine ⟨.inr entX, ?_⟩
   refine RH.one (i := 10) krX ?_
   refine RHone.eff rfl (Wanted.free rfl) (E.call rfl go95 rfl (rotl_ok (r := 19) (by decide) (by decide) (by decide) (by decide) (by decide))) rfl ?_
   rintro _ _ ⟨rfl, rfl⟩
   refine ⟨.inr entX, ?_⟩
   refine RH.val 11 rfl krX krX krX krX (Wanted.free rfl) (V.bin rfl rfl rfl (B.xor32)) rfl ?_
   refine RH.val 14 rfl krX krX krX krX (Wanted.free rfl) (V.bin rfl rfl rfl (B.xor32)) rfl ?_
   refine RH.val 15 rfl krX krX krX krX (Wanted.free rfl) (V.bin rfl rfl rfl (B.add32)) rfl ?_
   refine RH.val 16 rfl krX krX krX krX (Wanted.free rfl) (V.bin rfl rfl rfl (B.add32)) rfl ?_
   refine RH.val 17 rfl krX krX krX krX (Wanted.free rfl) (V.indexW (j := t) rfl ar138 rfl rfl (by first | rfl | omega) (by omega)) rfl ?_
   refine RH.one (i := 18) krX ?_
   refine RHone.eff rfl (Wanted.free rfl) (E.storeW rfl rfl rfl sz108 pickX (by rw [wx_length (by omega)]; omega)) rfl ?_
   rintro _ _ rfl
   refine ⟨.inl krX, ?_⟩
   rw [wx_set]
   refine RH.ent (Blk.eqw (wx_done (by omega) (by rw [nxt_hi (by omega)]; exact (UInt32.add_assoc _ _ _).symm))) ?_
   refine RH.done krX ?_
   refine SG.inBlock ?_
   refine SG.region ?_
   refine RL.val (Wanted.free rfl) (V.move rfl rfl) rfl ?_
   refine RL.val (Wanted.free rfl) (V.bin rfl rfl rfl (B.addI (by omega) (by omega))) rfl ?_
   refine RL.val (Wanted.free rfl) (V.assign rfl rfl) rfl ?_
   refine RL.nil ?_
   refine SG.weaken (ih2 _ _ _ ?_ ⟨t + 1, by omega, by omega, rfl, rfl, rfl⟩) ?_ ?_
   ·
    omega
   ·
    repeat (first | exact EnvLe.nil _ | refine EnvLe.cons rfl ?_)
   ·
    exact entX
  ·
   refine RL.nil ?_
   refine SG.cond_false rfl ?_
   refine SG.exit rfl ?_
   refine SG.seq ?_
   obtain rfl : t = 64 := by omega
   rw [wz_full]
   refine SG.region ?_
   refine RL.val (Wanted.free rfl) (V.loadAgg (us := H.map v32) rfl ag109 rfl pickX (take_all hH) (by simp [hH])) rfl ?_
   refine RL.eff (Wanted.free rfl) (E.alloc rfl ze109) rfl ?_
   rintro _ _ ⟨b12, rfl, rfl⟩
   refine RL.eff (Wanted.free rfl) (E.storeWhole rfl rfl rfl (by simp [hH]) sz109 pickX (one32 _) (by rfl)) rfl ?_
   rintro _ _ rfl
   refine RL.nil ?_
   refine SG.seq ?_
   refine SG.seq ?_
   refine SG.region ?_
   refine RL.val (Wanted.free rfl) (V.loadAt (a := (some ⟨0, 0, none⟩)) (k := 0) rfl ag138 rfl memX rfl) rfl ?_
   refine RL.val (Wanted.free rfl) (V.move rfl rfl) rfl ?_
   refine RL.nil ?_
   refine SG.block ?_
   refine SG.weaken (SG.loop2 (fun m al M => ∃ t : Nat, t ≤ 64 ∧ m = 64 - t ∧ al = [(1, .slice a l.length c), (2, ptr b2 0), (4, ptr b4 0), (5, ptr b5 0), (12, ptr b12 0), (92, .agg (KK.map v32).toArray), (93, vI t)] ∧ M = Blk b12 109 ((run H (ws l 64) t).map v32) :: Blk b5 138 ((ws l 64).map v32) :: Blk b4 109 [.int .u32 0, .int .u32 0, .int .u32 0, .int .u32 0, .int .u32 0, .int .u32 0, .int .u32 0, .int .u32 0] :: Blk b2 109 (H.map v32) :: L) (m0 := _) ⟨0, by omega, rfl, rfl, rfl⟩ ?_) ?_ ?_
   rotate_left
   ·
    repeat (first | exact EnvLe.nil _ | refine EnvLe.cons rfl ?_)
   ·
    exact entX
   rintro _ _ _ ⟨t, ht, rfl, rfl, rfl⟩ ih3
   refine SG.seq ?_
   refine SG.region ?_
   refine RL.cmp (Wanted.free rfl) (V.bin rfl rfl rfl B.lss) rfl (fun h91 => ?_) (fun h91 => ?_)
   ·
    refine RL.nil ?_
    refine SG.seq ?_
    refine SG.cond_true rfl ?_
    refine SG.skip ?_
    refine SG.seq ?_
    refine SG.block ?_
    refine SG.seq ?_
    obtain ⟨x0, x1, x2, x3, x4, x5, x6, x7, hr⟩ := eight (run_length H (ws l 64) hH t)
    rw [hr]
    refine SG.region ?_
    refine RL.val (Wanted.free rfl) (V.move rfl rfl) rfl ?_
    refine RL.val (Wanted.free rfl) (V.indexV (j := t) rfl ar138 on108 rfl rfl rfl (by first | rfl | omega) (getD_some 0 (show t < 64 by omega))) rfl ?_
    refine RL.val (Wanted.free rfl) (V.assign rfl rfl) rfl ?_
    refine RL.val (Wanted.free rfl) (V.assign rfl rfl) rfl ?_
    refine RL.nil ?_
    refine SG.seq ?_
    refine SG.drawL 6 6 wide rfl rfl ?_
    refine RH.val 0 rfl krX krX krX krX (Wanted.free rfl) (V.indexW (j := 4) rfl ar109 rfl rfl (by first | rfl | omega) (by omega)) rfl ?_
    refine RH.val 1 rfl krX krX krX krX (Wanted.free rfl) (V.load rfl on108 rfl pickX rfl) rfl ?_
    refine RH.val 2 rfl krX krX krX krX (Wanted.free rfl) (V.indexW (j := 0) rfl ar109 rfl rfl (by first | rfl | omega) (by omega)) rfl ?_
    refine RH.val 3 rfl krX krX krX krX (Wanted.free rfl) (V.load rfl on108 rfl pickX rfl) rfl ?_
    refine RH.val 4 rfl krX krX krX krX (Wanted.free rfl) (V.assign rfl rfl) rfl ?_
    refine RH.val 5 rfl krX krX krX krX (Wanted.free rfl) (V.assign rfl rfl) rfl ?_
    refine RH.done krX ?_
    refine SG.seq ?_
    refine SG.drawL 29 29 wide rfl rfl ?_
    refine RH.val 0 rfl krX krX krX krX (Wanted.free rfl) (V.indexW (j := 7) rfl ar109 rfl rfl (by first | rfl | omega) (by omega)) rfl ?_
    refine RH.val 1 rfl krX krX krX krX (Wanted.free rfl) (V.load rfl on108 rfl pickX rfl) rfl ?_
    refine RH.val 2 rfl krX krX krX krX (Wanted.free rfl) (V.move rfl rfl) rfl ?_
    refine RH.val 4 rfl krX krX krX krX (Wanted.free rfl) (V.move rfl rfl) rfl ?_
    refine RH.val 7 rfl krX krX krX krX (Wanted.free rfl) (V.move rfl rfl) rfl ?_
    refine RH.val 11 rfl krX krX krX krX (Wanted.free rfl) (V.indexW (j := 6) rfl ar109 rfl rfl (by first | rfl | omega) (by omega)) rfl ?_
    refine RH.val 12 rfl krX krX krX krX (Wanted.free rfl) (V.load rfl on108 rfl pickX rfl) rfl ?_
    refine RH.val 13 rfl krX krX krX krX (Wanted.free rfl) (V.move rfl rfl) rfl ?_
    refine RH.val 14 rfl krX krX krX krX (Wanted.free rfl) (V.indexW (j := 5) rfl ar109 rfl rfl (by first | rfl | omega) (by omega)) rfl ?_
    refine RH.val 15 rfl krX krX krX krX (Wanted.free rfl) (V.load rfl on108 rfl pickX rfl) rfl ?_
    refine RH.val 16 rfl krX krX krX krX (Wanted.free rfl) (V.indexW (j := 6) rfl ar109 rfl rfl (by first | rfl | omega) (by omega)) rfl ?_
    refine RH.val 17 rfl krX krX krX krX (Wanted.free rfl) (V.load rfl on108 rfl pickX rfl) rfl ?_
    refine RH.val 18 rfl krX krX krX krX (Wanted.free rfl) (V.bin rfl rfl rfl (B.xor32)) rfl ?_
    refine RH.val 19 rfl krX krX krX krX (Wanted.free rfl) (V.bin rfl rfl rfl (B.and32)) rfl ?_
    refine RH.val 20 rfl krX krX krX krX (Wanted.free rfl) (V.bin rfl rfl rfl (B.xor32)) rfl ?_
    rw [ch_eq]
    refine RH.val 22 rfl krX krX krX krX (Wanted.free rfl) (V.move rfl rfl) rfl ?_
    refine RH.val 24 rfl krX krX krX krX (Wanted.free rfl) (V.move rfl rfl) rfl ?_
    refine RH.val 25 rfl krX krX krX krX (Wanted.free rfl) (V.indexW (j := t) rfl ar138 rfl rfl (by first | rfl | omega) (by omega)) rfl ?_
    refine RH.val 26 rfl krX krX krX krX (Wanted.free rfl) (V.loadW rfl on108 rfl pickX (getD_some 0 (by rw [ws_length]; omega))) rfl ?_
    refine RH.one (i := 3) krX ?_
    refine RHone.eff rfl (Wanted.free rfl) (E.call rfl go95 rfl (rotl_ok (r := 6) (by decide) (by decide) (by decide) (by decide) (by decide))) rfl ?_
    rintro _ _ ⟨rfl, rfl⟩
    refine ⟨.inr entX, ?_⟩
    refine RH.one (i := 5) krX ?_
    refine RHone.eff rfl (Wanted.free rfl) (E.call rfl go95 rfl (rotl_ok (r := 11) (by decide) (by decide) (by decide) (by decide) (by decide))) rfl ?_
    rintro _ _ ⟨rfl, rfl⟩
    refine ⟨.inr entX, ?_⟩
    refine RH.val 6 rfl krX krX krX krX (Wanted.free rfl) (V.bin rfl rfl rfl (B.xor32)) rfl ?_
    refine RH.one (i := 8) krX ?_
    refine RHone.eff rfl (Wanted.free rfl) (E.call rfl go95 rfl (rotl_ok (r := 25) (by decide) (by decide) (by decide) (by decide) (by decide))) rfl ?_
    rintro _ _ ⟨rfl, rfl⟩
    refine ⟨.inr entX, ?_⟩
    refine RH.val 9 rfl krX krX krX krX (Wanted.free rfl) (V.bin rfl rfl rfl (B.xor32)) rfl ?_
    refine RH.val 10 rfl krX krX krX krX (Wanted.free rfl) (V.bin rfl rfl rfl (B.add32)) rfl ?_
    refine RH.val 21 rfl krX krX krX krX (Wanted.free rfl) (V.bin rfl rfl rfl (B.add32)) rfl ?_
    refine RH.val 23 rfl krX krX krX krX (Wanted.free rfl) (V.bin rfl rfl rfl (B.add32)) rfl ?_
    refine RH.val 27 rfl krX krX krX krX (Wanted.free rfl) (V.bin rfl rfl rfl (B.add32)) rfl ?_
    refine RH.val 28 rfl krX krX krX krX (Wanted.free rfl) (V.assign rfl rfl) rfl ?_
    refine RH.done krX ?_
    refine SG.seq ?_
    refine SG.drawL 22 22 wide rfl rfl ?_
    refine RH.val 0 rfl krX krX krX krX (Wanted.free rfl) (V.move rfl rfl) rfl ?_
    refine RH.val 2 rfl krX krX krX krX (Wanted.free rfl) (V.move rfl rfl) rfl ?_
    refine RH.val 5 rfl krX krX krX krX (Wanted.free rfl) (V.move rfl rfl) rfl ?_
    refine RH.val 8 rfl krX krX krX krX (Wanted.free rfl) (V.move rfl rfl) rfl ?_
    refine RH.val 9 rfl krX krX krX krX (Wanted.free rfl) (V.indexW (j := 1) rfl ar109 rfl rfl (by first | rfl | omega) (by omega)) rfl ?_
    refine RH.val 10 rfl krX krX krX krX (Wanted.free rfl) (V.load rfl on108 rfl pickX rfl) rfl ?_
    refine RH.val 11 rfl krX krX krX krX (Wanted.free rfl) (V.bin rfl rfl rfl (B.and32)) rfl ?_
    refine RH.val 12 rfl krX krX krX krX (Wanted.free rfl) (V.indexW (j := 2) rfl ar109 rfl rfl (by first | rfl | omega) (by omega)) rfl ?_
    refine RH.val 13 rfl krX krX krX krX (Wanted.free rfl) (V.load rfl on108 rfl pickX rfl) rfl ?_
    refine RH.val 14 rfl krX krX krX krX (Wanted.free rfl) (V.move rfl rfl) rfl ?_
    refine RH.val 15 rfl krX krX krX krX (Wanted.free rfl) (V.indexW (j := 1) rfl ar109 rfl rfl (by first | rfl | omega) (by omega)) rfl ?_
    refine RH.val 16 rfl krX krX krX krX (Wanted.free rfl) (V.load rfl on108 rfl pickX rfl) rfl ?_
    refine RH.val 17 rfl krX krX krX krX (Wanted.free rfl) (V.bin rfl rfl rfl (B.or32)) rfl ?_
    refine RH.val 18 rfl krX krX krX krX (Wanted.free rfl) (V.bin rfl rfl rfl (B.and32)) rfl ?_
    refine RH.val 19 rfl krX krX krX krX (Wanted.free rfl) (V.bin rfl rfl rfl (B.or32)) rfl ?_
    rw [maj_eq]
    refine RH.one (i := 1) krX ?_
    refine RHone.eff rfl (Wanted.free rfl) (E.call rfl go95 rfl (rotl_ok (r := 2) (by decide) (by decide) (by decide) (by decide) (by decide))) rfl ?_
    rintro _ _ ⟨rfl, rfl⟩
    refine ⟨.inr entX, ?_⟩
    refine RH.one (i := 3) krX ?_
    refine RHone.eff rfl (Wanted.free rfl) (E.call rfl go95 rfl (rotl_ok (r := 13) (by decide) (by decide) (by decide) (by decide) (by decide))) rfl ?_
    rintro _ _ ⟨rfl, rfl⟩
    refine ⟨.inr entX, ?_⟩
    refine RH.val 4 rfl krX krX krX krX (Wanted.free rfl) (V.bin rfl rfl rfl (B.xor32)) rfl ?_
    refine RH.one (i := 6) krX ?_
    refine RHone.eff rfl (Wanted.free rfl) (E.call rfl go95 rfl (rotl_ok (r := 22) (by decide) (by decide) (by decide) (by decide) (by decide))) rfl ?_
    rintro _ _ ⟨rfl, rfl⟩
    refine ⟨.inr entX, ?_⟩
    refine RH.val 7 rfl krX krX krX krX (Wanted.free rfl) (V.bin rfl rfl rfl (B.xor32)) rfl ?_
    refine RH.val 20 rfl krX krX krX krX (Wanted.free rfl) (V.bin rfl rfl rfl (B.add32)) rfl ?_
    refine RH.val 21 rfl krX krX krX krX (Wanted.free rfl) (V.assign rfl rfl) rfl ?_
    refine RH.done krX ?_
    refine SG.region ?_
    refine RL.val (Wanted.free rfl) (V.move rfl rfl) rfl ?_
    refine RL.val (Wanted.free rfl) (V.move rfl rfl) rfl ?_
    refine RL.val (Wanted.free rfl) (V.bin rfl rfl rfl (B.add32)) rfl ?_
    refine RL.val (Wanted.free rfl) (V.move rfl rfl) rfl ?_
    refine RL.val (Wanted.free rfl) (V.indexW (j := 1) rfl ar109 rfl rfl (by first | rfl | omega) (by omega)) rfl ?_
    refine RL.val (Wanted.free rfl) (V.load rfl on108 rfl pickX rfl) rfl ?_
    refine RL.val (Wanted.free rfl) (V.indexW (j := 2) rfl ar109 rfl rfl (by first | rfl | omega) (by omega)) rfl ?_
    refine RL.val (Wanted.free rfl) (V.load rfl on108 rfl pickX rfl) rfl ?_
    refine RL.val (Wanted.free rfl) (V.indexW (j := 3) rfl ar109 rfl rfl (by first | rfl | omega) (by omega)) rfl ?_
    refine RL.val (Wanted.free rfl) (V.load rfl on108 rfl pickX rfl) rfl ?_
    refine RL.val (Wanted.free rfl) (V.move rfl rfl) rfl ?_
    refine RL.val (Wanted.free rfl) (V.bin rfl rfl rfl (B.add32)) rfl ?_
    refine RL.val (Wanted.free rfl) (V.move rfl rfl) rfl ?_
    refine RL.val (Wanted.free rfl) (V.indexW (j := 5) rfl ar109 rfl rfl (by first | rfl | omega) (by omega)) rfl ?_
    refine RL.val (Wanted.free rfl) (V.load rfl on108 rfl pickX rfl) rfl ?_
    refine RL.val (Wanted.free rfl) (V.indexW (j := 6) rfl ar109 rfl rfl (by first | rfl | omega) (by omega)) rfl ?_
    refine RL.val (Wanted.free rfl) (V.load rfl on108 rfl pickX rfl) rfl ?_
    refine RL.val (Wanted.free rfl) (V.buildA [(0, _), (1, _), (2, _), (3, _), (4, _), (5, _), (6, _), (7, _)] rfl ba109 (by exact ⟨rfl, ⟨_, rfl, rfl⟩, ⟨rfl, ⟨_, rfl, rfl⟩, ⟨rfl, ⟨_, rfl, rfl⟩, ⟨rfl, ⟨_, rfl, rfl⟩, ⟨rfl, ⟨_, rfl, rfl⟩, ⟨rfl, ⟨_, rfl, rfl⟩, ⟨rfl, ⟨_, rfl, rfl⟩, ⟨rfl, ⟨_, rfl, rfl⟩, trivial⟩⟩⟩⟩⟩⟩⟩⟩) rfl) rfl ?_
    refine RL.let_ (d := 167) (u' := .agg ((rnd [x0, x1, x2, x3, x4, x5, x6, x7] (KK.getD t 0) ((ws l 64).getD t 0)).map v32).toArray) rfl rfl ?_
    refine RL.eff (Wanted.free rfl) (E.storeWhole rfl rfl rfl (by rw [List.length_map]; exact rnd_length _ _ _ rfl) sz109 pickX (one32 _) (by simp)) rfl ?_
    rintro _ _ rfl
    refine RL.nil ?_
    refine SG.inBlock ?_
    refine SG.region ?_
    refine RL.val (Wanted.free rfl) (V.bin rfl rfl rfl (B.addI (by omega) (by omega))) rfl ?_
    refine RL.val (Wanted.free rfl) (V.move rfl rfl) rfl ?_
    refine RL.nil ?_
    refine SG.weaken (ih3 _ _ _ ?_ ⟨t + 1, by omega, rfl, rfl, rfl⟩) ?_ ?_
    ·
     omega
    ·
     repeat (first | exact EnvLe.nil _ | refine EnvLe.cons rfl ?_)
    ·
     rw [run, hr]
     exact entX
   ·
    refine RL.nil ?_
    refine SG.seq ?_
    refine SG.cond_false rfl ?_
    refine SG.exit rfl ?_
    refine SG.seq ?_
    refine SG.seq ?_
    refine SG.region ?_
    refine RL.val (Wanted.free rfl) (V.move rfl rfl) rfl ?_
    refine RL.nil ?_
    refine SG.block ?_
    obtain rfl : t = 64 := by omega
    refine SG.weaken (SG.loop2 (fun m al M => ∃ i : Nat, i ≤ 8 ∧ m = 8 - i ∧ al = [(2, ptr b2 0), (4, ptr b4 0), (12, ptr b12 0), (169, vI i)] ∧ M = Blk b2 109 ((mix H (run H (ws l 64) 64) i).map v32) :: Blk b12 109 ((run H (ws l 64) 64).map v32) :: Blk b4 109 [.int .u32 0, .int .u32 0, .int .u32 0, .int .u32 0, .int .u32 0, .int .u32 0, .int .u32 0, .int .u32 0] :: L) (m0 := _) ⟨0, by omega, rfl, rfl, rfl⟩ ?_) ?_ ?_
    rotate_left
    ·
     repeat (first | exact EnvLe.nil _ | refine EnvLe.cons rfl ?_)
    ·
     exact entX
    rintro _ _ _ ⟨i, hi, rfl, rfl, rfl⟩ ih4
    refine SG.seq ?_
    refine SG.region ?_
    refine RL.cmp (Wanted.free rfl) (V.bin rfl rfl rfl B.lss) rfl (fun h175 => ?_) (fun h175 => ?_)
    ·
     refine RL.nil ?_
     refine SG.seq ?_
     refine SG.cond_true rfl ?_
     refine SG.skip ?_
     refine SG.seq ?_
     refine SG.block ?_
     refine SG.seq ?_
     refine SG.region ?_
     refine RL.val (Wanted.free rfl) (V.move rfl rfl) rfl ?_
     refine RL.val (Wanted.free rfl) (V.assign rfl rfl) rfl ?_
     refine RL.nil ?_
     refine SG.drawL 9 8 wide rfl rfl ?_
     refine RH.val 0 rfl krX krX krX krX (Wanted.free rfl) (V.move rfl rfl) rfl ?_
     refine RH.val 1 rfl krX krX krX krX (Wanted.free rfl) (V.indexW (j := i) rfl ar109 rfl rfl (by first | rfl | omega) (by omega)) rfl ?_
     refine RH.val 2 rfl krX krX krX krX (Wanted.free rfl) (V.loadW rfl on108 rfl pickX (getD_some 0 (by rw [mix_length hH (run_length _ _ hH _) (by omega)]; omega))) rfl ?_
     refine RH.val 3 rfl krX krX krX krX (Wanted.free rfl) (V.move rfl rfl) rfl ?_
     refine RH.val 4 rfl krX krX krX krX (Wanted.free rfl) (V.indexW (j := i) rfl ar109 rfl rfl (by first | rfl | omega) (by omega)) rfl ?_
     refine RH.val 5 rfl krX krX krX krX (Wanted.free rfl) (V.loadW rfl on108 rfl pickX (getD_some 0 (by rw [run_length _ _ hH]; omega))) rfl ?_
     refine RH.val 6 rfl krX krX krX krX (Wanted.free rfl) (V.bin rfl rfl rfl (B.add32)) rfl ?_
     refine RH.val 7 rfl krX krX krX krX (Wanted.free rfl) (V.indexW (j := i) rfl ar109 rfl rfl (by first | rfl | omega) (by omega)) rfl ?_
     refine RH.one (i := 8) krX ?_
     refine RHone.eff rfl (Wanted.free rfl) (E.storeW rfl rfl rfl sz108 pickX (by rw [mix_length hH (run_length _ _ hH _) (by omega)]; omega)) rfl ?_
     rintro _ _ rfl
     refine ⟨.inl krX, ?_⟩
     rw [mix_step hH (run_length _ _ hH _) (by omega)]
     refine RH.done krX ?_
     refine SG.inBlock ?_
     refine SG.region ?_
     refine RL.val (Wanted.free rfl) (V.bin rfl rfl rfl (B.addI (by omega) (by omega))) rfl ?_
     refine RL.val (Wanted.free rfl) (V.move rfl rfl) rfl ?_
     refine RL.nil ?_
     refine SG.weaken (ih4 _ _ _ ?_ ⟨i + 1, by omega, rfl, rfl, rfl⟩) ?_ ?_
     ·
      omega
     ·
      repeat (first | exact EnvLe.nil _ | refine EnvLe.cons rfl ?_)
     ·
      exact entX
    ·
     refine RL.nil ?_
     refine SG.seq ?_
     refine SG.cond_false rfl ?_
     refine SG.exit rfl ?_
     refine SG.seq ?_
     obtain rfl : i = 8 := by omega
     refine SG.region ?_
     refine RL.val (Wanted.free rfl) (V.loadAgg (us := (mix H (run H (ws l 64) 64) 8).map v32) rfl ag109 rfl pickX (take_all (mix_length hH (run_length _ _ hH _) (by omega))) (by rw [List.length_map]; exact mix_length hH (run_length _ _ hH _) (by omega))) rfl ?_
     refine RL.eff (Wanted.free rfl) (E.storeWhole rfl rfl rfl (by rw [List.length_map]; exact mix_length hH (run_length _ _ hH _) (by omega)) sz109 pickX (one32 _) (by rfl)) rfl ?_
     rintro _ _ rfl
     refine RL.nil ?_
     refine SG.retE (Ret.r1 Tryd.func88 rfl (.agg rfl ag109 pickX (take_all (mix_length hH (run_length _ _ hH _) (by omega))) (by rw [List.length_map]; exact mix_length hH (run_length _ _ hH _) (by omega)))) ?_ ⟨by rw [mix_all hH (run_length _ _ hH _)]; rfl, rfl⟩
     exact entX

end Go.Proofs.YtcbloadpffjkiaaDoor
