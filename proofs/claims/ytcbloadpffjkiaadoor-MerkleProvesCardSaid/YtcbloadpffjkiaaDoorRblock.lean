/- The reference's block. -/
import Derived.Test.YtcbloadpffjkiaaDoorRots
namespace Go.Proofs.YtcbloadpffjkiaaDoor
open Go.Wk Go.Sha


theorem four {l : List UInt8} {t : Nat} (h : 4 * t + 3 < l.length) : (l.drop (4 * t)).take 4 = [l[4 * t], l[4 * t + 1], l[4 * t + 2], l[4 * t + 3]] := by
  rw [List.drop_eq_getElem_cons (by omega), List.drop_eq_getElem_cons (by omega), List.drop_eq_getElem_cons (by omega), List.drop_eq_getElem_cons (by omega)]
  rfl
theorem nxt_four {l : List UInt8} {W : List UInt32} {t : Nat} (h : 4 * t + 3 < l.length) (ht : t < 16) : l[4 * t].toUInt32 <<< 24 ||| l[4 * t + 1].toUInt32 <<< 16 ||| l[4 * t + 2].toUInt32 <<< 8 ||| l[4 * t + 3].toUInt32 = nxt l W t := by
  rw [nxt_lo ht, four h, be_four]
theorem blocks_snoc (n : Nat) (h : List UInt32) (l : List UInt8) : blocks (n + 1) h l = block (blocks n h l) (l.drop (64 * n)) := by
  rw [blocks_add n 1]; rfl

set_option maxRecDepth 100000 in
theorem first_ok {κ : World} {L : List Assn}  :
    Ctr Tryd.prog 93 #[] κ L (fun v M => v = .agg (first.map v32).toArray ∧ M = L) := by
 refine Ctr.enter (vs := []) (m := 2) Tryd.func93 rfl rfl rfl ?_
 refine SG.seq ?_
 refine SG.region ?_
 refine RL.eff (Wanted.free rfl) (E.alloc rfl ze109) rfl ?_
 rintro _ _ ⟨b1, rfl, rfl⟩
 refine RL.nil ?_
 refine SG.seq ?_
 refine SG.region ?_
 refine RL.val (Wanted.free rfl) (V.buildA [(0, _), (1, _), (2, _), (3, _), (4, _), (5, _), (6, _), (7, _)] rfl ba109 (by exact ⟨rfl, ⟨_, rfl, rfl⟩, ⟨rfl, ⟨_, rfl, rfl⟩, ⟨rfl, ⟨_, rfl, rfl⟩, ⟨rfl, ⟨_, rfl, rfl⟩, ⟨rfl, ⟨_, rfl, rfl⟩, ⟨rfl, ⟨_, rfl, rfl⟩, ⟨rfl, ⟨_, rfl, rfl⟩, ⟨rfl, ⟨_, rfl, rfl⟩, trivial⟩⟩⟩⟩⟩⟩⟩⟩) rfl) rfl ?_
 refine RL.let_ (d := 1) (u' := .agg (first.map v32).toArray) rfl rfl ?_
 refine RL.eff (Wanted.free rfl) (E.storeWhole rfl rfl rfl (by rfl) sz109 pickX (one32 _) (by rfl)) rfl ?_
 rintro _ _ rfl
 refine RL.nil ?_
 refine SG.retE (Ret.r1 Tryd.func93 rfl (.agg rfl ag109 pickX (take_all (m := 8) rfl) rfl)) ?_ ⟨rfl, rfl⟩
 exact entX

set_option maxRecDepth 100000 in
theorem round_ok {κ : World} {L : List Assn}  :
    Ctr Tryd.prog 98 #[] κ L (fun v M => v = .agg (KK.map v32).toArray ∧ M = L) := by
 refine Ctr.enter (vs := []) (m := 2) Tryd.func98 rfl rfl rfl ?_
 refine SG.seq ?_
 refine SG.region ?_
 refine RL.eff (Wanted.free rfl) (E.alloc rfl ze138) rfl ?_
 rintro _ _ ⟨b1, rfl, rfl⟩
 refine RL.nil ?_
 refine SG.seq ?_
 refine SG.region ?_
 refine RL.val (Wanted.free rfl) (V.buildA (cs := KK.map v32) [(0, [.int .u32 1116352408]), (1, [.int .u32 1899447441]), (2, [.int .u32 3049323471]), (3, [.int .u32 3921009573]), (4, [.int .u32 961987163]), (5, [.int .u32 1508970993]), (6, [.int .u32 2453635748]), (7, [.int .u32 2870763221]), (8, [.int .u32 3624381080]), (9, [.int .u32 310598401]), (10, [.int .u32 607225278]), (11, [.int .u32 1426881987]), (12, [.int .u32 1925078388]), (13, [.int .u32 2162078206]), (14, [.int .u32 2614888103]), (15, [.int .u32 3248222580]), (16, [.int .u32 3835390401]), (17, [.int .u32 4022224774]), (18, [.int .u32 264347078]), (19, [.int .u32 604807628]), (20, [.int .u32 770255983]), (21, [.int .u32 1249150122]), (22, [.int .u32 1555081692]), (23, [.int .u32 1996064986]), (24, [.int .u32 2554220882]), (25, [.int .u32 2821834349]), (26, [.int .u32 2952996808]), (27, [.int .u32 3210313671]), (28, [.int .u32 3336571891]), (29, [.int .u32 3584528711]), (30, [.int .u32 113926993]), (31, [.int .u32 338241895]), (32, [.int .u32 666307205]), (33, [.int .u32 773529912]), (34, [.int .u32 1294757372]), (35, [.int .u32 1396182291]), (36, [.int .u32 1695183700]), (37, [.int .u32 1986661051]), (38, [.int .u32 2177026350]), (39, [.int .u32 2456956037]), (40, [.int .u32 2730485921]), (41, [.int .u32 2820302411]), (42, [.int .u32 3259730800]), (43, [.int .u32 3345764771]), (44, [.int .u32 3516065817]), (45, [.int .u32 3600352804]), (46, [.int .u32 4094571909]), (47, [.int .u32 275423344]), (48, [.int .u32 430227734]), (49, [.int .u32 506948616]), (50, [.int .u32 659060556]), (51, [.int .u32 883997877]), (52, [.int .u32 958139571]), (53, [.int .u32 1322822218]), (54, [.int .u32 1537002063]), (55, [.int .u32 1747873779]), (56, [.int .u32 1955562222]), (57, [.int .u32 2024104815]), (58, [.int .u32 2227730452]), (59, [.int .u32 2361852424]), (60, [.int .u32 2428436474]), (61, [.int .u32 2756734187]), (62, [.int .u32 3204031479]), (63, [.int .u32 3329325298])] rfl ba138 (by exact ⟨rfl, ⟨_, rfl, rfl⟩, ⟨rfl, ⟨_, rfl, rfl⟩, ⟨rfl, ⟨_, rfl, rfl⟩, ⟨rfl, ⟨_, rfl, rfl⟩, ⟨rfl, ⟨_, rfl, rfl⟩, ⟨rfl, ⟨_, rfl, rfl⟩, ⟨rfl, ⟨_, rfl, rfl⟩, ⟨rfl, ⟨_, rfl, rfl⟩, ⟨rfl, ⟨_, rfl, rfl⟩, ⟨rfl, ⟨_, rfl, rfl⟩, ⟨rfl, ⟨_, rfl, rfl⟩, ⟨rfl, ⟨_, rfl, rfl⟩, ⟨rfl, ⟨_, rfl, rfl⟩, ⟨rfl, ⟨_, rfl, rfl⟩, ⟨rfl, ⟨_, rfl, rfl⟩, ⟨rfl, ⟨_, rfl, rfl⟩, ⟨rfl, ⟨_, rfl, rfl⟩, ⟨rfl, ⟨_, rfl, rfl⟩, ⟨rfl, ⟨_, rfl, rfl⟩, ⟨rfl, ⟨_, rfl, rfl⟩, ⟨rfl, ⟨_, rfl, rfl⟩, ⟨rfl, ⟨_, rfl, rfl⟩, ⟨rfl, ⟨_, rfl, rfl⟩, ⟨rfl, ⟨_, rfl, rfl⟩, ⟨rfl, ⟨_, rfl, rfl⟩, ⟨rfl, ⟨_, rfl, rfl⟩, ⟨rfl, ⟨_, rfl, rfl⟩, ⟨rfl, ⟨_, rfl, rfl⟩, ⟨rfl, ⟨_, rfl, rfl⟩, ⟨rfl, ⟨_, rfl, rfl⟩, ⟨rfl, ⟨_, rfl, rfl⟩, ⟨rfl, ⟨_, rfl, rfl⟩, ⟨rfl, ⟨_, rfl, rfl⟩, ⟨rfl, ⟨_, rfl, rfl⟩, ⟨rfl, ⟨_, rfl, rfl⟩, ⟨rfl, ⟨_, rfl, rfl⟩, ⟨rfl, ⟨_, rfl, rfl⟩, ⟨rfl, ⟨_, rfl, rfl⟩, ⟨rfl, ⟨_, rfl, rfl⟩, ⟨rfl, ⟨_, rfl, rfl⟩, ⟨rfl, ⟨_, rfl, rfl⟩, ⟨rfl, ⟨_, rfl, rfl⟩, ⟨rfl, ⟨_, rfl, rfl⟩, ⟨rfl, ⟨_, rfl, rfl⟩, ⟨rfl, ⟨_, rfl, rfl⟩, ⟨rfl, ⟨_, rfl, rfl⟩, ⟨rfl, ⟨_, rfl, rfl⟩, ⟨rfl, ⟨_, rfl, rfl⟩, ⟨rfl, ⟨_, rfl, rfl⟩, ⟨rfl, ⟨_, rfl, rfl⟩, ⟨rfl, ⟨_, rfl, rfl⟩, ⟨rfl, ⟨_, rfl, rfl⟩, ⟨rfl, ⟨_, rfl, rfl⟩, ⟨rfl, ⟨_, rfl, rfl⟩, ⟨rfl, ⟨_, rfl, rfl⟩, ⟨rfl, ⟨_, rfl, rfl⟩, ⟨rfl, ⟨_, rfl, rfl⟩, ⟨rfl, ⟨_, rfl, rfl⟩, ⟨rfl, ⟨_, rfl, rfl⟩, ⟨rfl, ⟨_, rfl, rfl⟩, ⟨rfl, ⟨_, rfl, rfl⟩, ⟨rfl, ⟨_, rfl, rfl⟩, ⟨rfl, ⟨_, rfl, rfl⟩, ⟨rfl, ⟨_, rfl, rfl⟩, trivial⟩⟩⟩⟩⟩⟩⟩⟩⟩⟩⟩⟩⟩⟩⟩⟩⟩⟩⟩⟩⟩⟩⟩⟩⟩⟩⟩⟩⟩⟩⟩⟩⟩⟩⟩⟩⟩⟩⟩⟩⟩⟩⟩⟩⟩⟩⟩⟩⟩⟩⟩⟩⟩⟩⟩⟩⟩⟩⟩⟩⟩⟩⟩⟩) krX) rfl ?_
 refine RL.eff (Wanted.free rfl) (E.storeWhole rfl rfl rfl (by rfl) sz138 pickX (one32 _) (by rw [List.length_replicate])) rfl ?_
 rintro _ _ rfl
 refine RL.nil ?_
 refine SG.retE (Ret.r1 Tryd.func98 rfl (.agg rfl ag138 pickX (take_all (m := 64) rfl) rfl)) ?_ ⟨rfl, rfl⟩
 exact entX

set_option maxRecDepth 100000 in
set_option maxHeartbeats 1000000 in
theorem sched_ok {κ : World} {L : List Assn} {a : Option Addr} {n c : Nat} {l : List UInt8} (hm : Sl R8 a n c l ∈ L) (hl : 64 ≤ l.length) :
    Ctr Tryd.prog 97 #[.slice a n c] κ L (fun v M => v = .agg ((ws l 64).map v32).toArray ∧ M = L) := by
 refine Ctr.enter (vs := [.slice a n c]) (m := 86) Tryd.func97 rfl rfl rfl ?_
 refine SG.sl hm fun hn hc hc63 => ?_
 subst hn
 refine SG.seq ?_
 refine SG.region ?_
 refine RL.eff (Wanted.free rfl) (E.alloc rfl ze138) rfl ?_
 rintro _ _ ⟨b2, rfl, rfl⟩
 refine RL.nil ?_
 refine SG.seq ?_
 refine SG.region ?_
 refine RL.eff (Wanted.free rfl) (E.alloc rfl ze138) rfl ?_
 rintro _ _ ⟨b3, rfl, rfl⟩
 refine RL.ent Blk.zeros ?_
 refine RL.ent (Blk.eqw (l' := wz l 0) rfl) ?_
 refine RL.nil ?_
 refine SG.seq ?_
 refine SG.seq ?_
 refine SG.region ?_
 refine RL.val (Wanted.free rfl) (V.assign rfl rfl) rfl ?_
 refine RL.nil ?_
 refine SG.block ?_
 refine SG.weaken (SG.loop2 (fun m al M => ∃ t : Nat, t ≤ 64 ∧ m = 64 - t ∧ al = [(0, .slice a l.length c), (2, ptr b2 0), (3, ptr b3 0), (4, vI t)] ∧ M = Blk b3 138 ((wz l t).map v32) :: Blk b2 138 (List.replicate 64 (.int .u32 0)) :: L) (m0 := _) ⟨0, by omega, rfl, rfl, rfl⟩ ?_) ?_ ?_
 rotate_left
 ·
  repeat (first | exact EnvLe.nil _ | refine EnvLe.cons rfl ?_)
 ·
  exact entX
 rintro _ _ _ ⟨t, ht, rfl, rfl, rfl⟩ ih0
 refine SG.seq ?_
 refine SG.seq ?_
 refine SG.region ?_
 refine RL.val (Wanted.free rfl) (V.move rfl rfl) rfl ?_
 refine RL.cmp (Wanted.free rfl) (V.bin rfl rfl rfl B.lss) rfl (fun h5 => ?_) (fun h5 => ?_)
 ·
  refine RL.nil ?_
  refine SG.cond_true rfl ?_
  refine SG.skip ?_
  refine SG.seq ?_
  refine SG.block ?_
  refine SG.seq ?_
  refine SG.region ?_
  refine RL.val (Wanted.free rfl) (V.move rfl rfl) rfl ?_
  refine RL.cmp (Wanted.free rfl) (V.bin rfl rfl rfl B.lss) rfl (fun h7 => ?_) (fun h7 => ?_)
  ·
   refine RL.nil ?_
   refine SG.cond_true rfl ?_
   rw [wz_wx (by omega)]
   refine SG.drawL 36 35 wide rfl rfl ?_
   refine RH.val 0 rfl krX krX krX krX (Wanted.free rfl) (V.move rfl rfl) rfl ?_
   refine RH.val 1 rfl krX krX krX krX (Wanted.free rfl) (V.move rfl rfl) rfl ?_
   refine RH.val 2 rfl krX krX krX krX (Wanted.free rfl) (V.move rfl rfl) rfl ?_
   refine RH.val 3 rfl krX krX krX krX (Wanted.free rfl) (V.bin rfl rfl rfl (B.mulI (by omega) (by omega))) rfl ?_
   refine RH.val 4 rfl krX krX krX krX (Wanted.free rfl) (V.indexSl (j := 4 * t) rfl el62.slice rfl rfl memX (by first | rfl | omega) (by omega)) rfl ?_
   refine RH.val 5 rfl krX krX krX krX (Wanted.free rfl) (V.loadSc rfl on5 rfl memX (List.getElem?_eq_getElem (by omega))) rfl ?_
   refine RH.val 6 rfl krX krX krX krX (Wanted.free rfl) (V.to32 rfl ⟨_, ui5⟩ ui108 rfl) rfl ?_
   rw [u8to32]
   refine RH.val 7 rfl krX krX krX krX (Wanted.free rfl) (V.bin rfl rfl rfl (B.shl32 24 (by decide) (by decide) rfl)) rfl ?_
   refine RH.val 8 rfl krX krX krX krX (Wanted.free rfl) (V.move rfl rfl) rfl ?_
   refine RH.val 9 rfl krX krX krX krX (Wanted.free rfl) (V.move rfl rfl) rfl ?_
   refine RH.val 10 rfl krX krX krX krX (Wanted.free rfl) (V.bin rfl rfl rfl (B.mulI (by omega) (by omega))) rfl ?_
   refine RH.val 11 rfl krX krX krX krX (Wanted.free rfl) (V.bin rfl rfl rfl (B.addI (by omega) (by omega))) rfl ?_
   refine RH.val 12 rfl krX krX krX krX (Wanted.free rfl) (V.indexSl (j := 4 * t + 1) rfl el62.slice rfl rfl memX (by first | rfl | omega) (by omega)) rfl ?_
   refine RH.val 13 rfl krX krX krX krX (Wanted.free rfl) (V.loadSc rfl on5 rfl memX (List.getElem?_eq_getElem (by omega))) rfl ?_
   refine RH.val 14 rfl krX krX krX krX (Wanted.free rfl) (V.to32 rfl ⟨_, ui5⟩ ui108 rfl) rfl ?_
   rw [u8to32]
   refine RH.val 15 rfl krX krX krX krX (Wanted.free rfl) (V.bin rfl rfl rfl (B.shl32 16 (by decide) (by decide) rfl)) rfl ?_
   refine RH.val 16 rfl krX krX krX krX (Wanted.free rfl) (V.bin rfl rfl rfl (B.or32)) rfl ?_
   refine RH.val 17 rfl krX krX krX krX (Wanted.free rfl) (V.move rfl rfl) rfl ?_
   refine RH.val 18 rfl krX krX krX krX (Wanted.free rfl) (V.move rfl rfl) rfl ?_
   refine RH.val 19 rfl krX krX krX krX (Wanted.free rfl) (V.bin rfl rfl rfl (B.mulI (by omega) (by omega))) rfl ?_
   refine RH.val 20 rfl krX krX krX krX (Wanted.free rfl) (V.bin rfl rfl rfl (B.addI (by omega) (by omega))) rfl ?_
   refine RH.val 21 rfl krX krX krX krX (Wanted.free rfl) (V.indexSl (j := 4 * t + 2) rfl el62.slice rfl rfl memX (by first | rfl | omega) (by omega)) rfl ?_
   refine RH.val 22 rfl krX krX krX krX (Wanted.free rfl) (V.loadSc rfl on5 rfl memX (List.getElem?_eq_getElem (by omega))) rfl ?_
   refine RH.val 23 rfl krX krX krX krX (Wanted.free rfl) (V.to32 rfl ⟨_, ui5⟩ ui108 rfl) rfl ?_
   rw [u8to32]
   refine RH.val 24 rfl krX krX krX krX (Wanted.free rfl) (V.bin rfl rfl rfl (B.shl32 8 (by decide) (by decide) rfl)) rfl ?_
   refine RH.val 25 rfl krX krX krX krX (Wanted.free rfl) (V.bin rfl rfl rfl (B.or32)) rfl ?_
   refine RH.val 26 rfl krX krX krX krX (Wanted.free rfl) (V.move rfl rfl) rfl ?_
   refine RH.val 27 rfl krX krX krX krX (Wanted.free rfl) (V.move rfl rfl) rfl ?_
   refine RH.val 28 rfl krX krX krX krX (Wanted.free rfl) (V.bin rfl rfl rfl (B.mulI (by omega) (by omega))) rfl ?_
   refine RH.val 29 rfl krX krX krX krX (Wanted.free rfl) (V.bin rfl rfl rfl (B.addI (by omega) (by omega))) rfl ?_
   refine RH.val 30 rfl krX krX krX krX (Wanted.free rfl) (V.indexSl (j := 4 * t + 3) rfl el62.slice rfl rfl memX (by first | rfl | omega) (by omega)) rfl ?_
   refine RH.val 31 rfl krX krX krX krX (Wanted.free rfl) (V.loadSc rfl on5 rfl memX (List.getElem?_eq_getElem (by omega))) rfl ?_
   refine RH.val 32 rfl krX krX krX krX (Wanted.free rfl) (V.to32 rfl ⟨_, ui5⟩ ui108 rfl) rfl ?_
   rw [u8to32]
   refine RH.val 33 rfl krX krX krX krX (Wanted.free rfl) (V.bin rfl rfl rfl (B.or32)) rfl ?_
   refine RH.val 34 rfl krX krX krX krX (Wanted.free rfl) (V.indexW (j := t) rfl ar138 rfl rfl (by first | rfl | omega) (by omega)) rfl ?_
   refine RH.one (i := 35) krX ?_
   refine RHone.eff rfl (Wanted.free rfl) (E.storeW rfl rfl rfl sz108 pickX (by rw [wx_length (by omega)]; omega)) rfl ?_
   rintro _ _ rfl
   refine ⟨.inl krX, ?_⟩
   rw [wx_set]
   refine RH.ent (Blk.eqw (wx_done (by omega) (nxt_four (by omega) (by omega)))) ?_
   refine RH.done krX ?_
   refine SG.inBlock ?_
   refine SG.region ?_
   refine RL.val (Wanted.free rfl) (V.move rfl rfl) rfl ?_
   refine RL.val (Wanted.free rfl) (V.bin rfl rfl rfl (B.addI (by omega) (by omega))) rfl ?_
   refine RL.val (Wanted.free rfl) (V.assign rfl rfl) rfl ?_
   refine RL.nil ?_
   refine SG.weaken (ih0 _ _ _ ?_ ⟨t + 1, by omega, rfl, rfl, rfl⟩) ?_ ?_
   ·
    omega
   ·
    repeat (first | exact EnvLe.nil _ | refine EnvLe.cons rfl ?_)
   ·
    exact entX
  ·
   refine RL.nil ?_
   refine SG.cond_false rfl ?_
   refine SG.seq ?_
   rw [wz_wx (by omega)]
   refine SG.region ?_
   refine RL.val (Wanted.free rfl) (V.move rfl rfl) rfl ?_
   refine RL.val (Wanted.free rfl) (V.bin rfl rfl rfl (B.subI (by omega) (by omega))) rfl ?_
   refine RL.val (Wanted.free rfl) (V.indexW (j := t - 15) rfl ar138 rfl rfl (by first | rfl | omega) (by omega)) rfl ?_
   refine RL.val (Wanted.free rfl) (V.loadW rfl on108 rfl pickX (wx_get (by omega))) rfl ?_
   refine RL.val (Wanted.free rfl) (V.assign rfl rfl) rfl ?_
   refine RL.nil ?_
   refine SG.seq ?_
   refine SG.region ?_
   refine RL.val (Wanted.free rfl) (V.move rfl rfl) rfl ?_
   refine RL.val (Wanted.free rfl) (V.bin rfl rfl rfl (B.subI (by omega) (by omega))) rfl ?_
   refine RL.val (Wanted.free rfl) (V.indexW (j := t - 2) rfl ar138 rfl rfl (by first | rfl | omega) (by omega)) rfl ?_
   refine RL.val (Wanted.free rfl) (V.loadW rfl on108 rfl pickX (wx_get (by omega))) rfl ?_
   refine RL.val (Wanted.free rfl) (V.assign rfl rfl) rfl ?_
   refine RL.nil ?_
   refine SG.drawL 30 29 wide rfl rfl ?_
   refine RH.val 0 rfl krX krX krX krX (Wanted.free rfl) (V.move rfl rfl) rfl ?_
   refine RH.val 1 rfl krX krX krX krX (Wanted.free rfl) (V.move rfl rfl) rfl ?_
   refine RH.val 2 rfl krX krX krX krX (Wanted.free rfl) (V.bin rfl rfl rfl (B.subI (by omega) (by omega))) rfl ?_
   refine RH.val 3 rfl krX krX krX krX (Wanted.free rfl) (V.indexW (j := t - 16) rfl ar138 rfl rfl (by first | rfl | omega) (by omega)) rfl ?_
   refine RH.val 4 rfl krX krX krX krX (Wanted.free rfl) (V.loadW rfl on108 rfl pickX (wx_get (by omega))) rfl ?_
   refine RH.val 5 rfl krX krX krX krX (Wanted.free rfl) (V.move rfl rfl) rfl ?_
   refine RH.val 7 rfl krX krX krX krX (Wanted.free rfl) (V.move rfl rfl) rfl ?_
   refine RH.val 10 rfl krX krX krX krX (Wanted.free rfl) (V.move rfl rfl) rfl ?_
   refine RH.val 11 rfl krX krX krX krX (Wanted.free rfl) (V.bin rfl rfl rfl (B.shr32 3 (by decide) (by decide) rfl)) rfl ?_
   refine RH.val 14 rfl krX krX krX krX (Wanted.free rfl) (V.move rfl rfl) rfl ?_
   refine RH.val 15 rfl krX krX krX krX (Wanted.free rfl) (V.bin rfl rfl rfl (B.subI (by omega) (by omega))) rfl ?_
   refine RH.val 16 rfl krX krX krX krX (Wanted.free rfl) (V.indexW (j := t - 7) rfl ar138 rfl rfl (by first | rfl | omega) (by omega)) rfl ?_
   refine RH.val 17 rfl krX krX krX krX (Wanted.free rfl) (V.loadW rfl on108 rfl pickX (wx_get (by omega))) rfl ?_
   refine RH.val 19 rfl krX krX krX krX (Wanted.free rfl) (V.move rfl rfl) rfl ?_
   refine RH.val 21 rfl krX krX krX krX (Wanted.free rfl) (V.move rfl rfl) rfl ?_
   refine RH.val 24 rfl krX krX krX krX (Wanted.free rfl) (V.move rfl rfl) rfl ?_
   refine RH.val 25 rfl krX krX krX krX (Wanted.free rfl) (V.bin rfl rfl rfl (B.shr32 10 (by decide) (by decide) rfl)) rfl ?_
   refine RH.one (i := 6) krX ?_
   refine RHone.eff rfl (Wanted.free rfl) (E.call rfl go99 rfl (rot_ok (r := 7) (by decide) (by decide) (by decide))) rfl ?_
   rintro _ _ ⟨rfl, rfl⟩
   refine ⟨.inr entX, ?_⟩
   refine RH.one (i := 8) krX ?_
   refine RHone.eff rfl (Wanted.free rfl) (E.call rfl go99 rfl (rot_ok (r := 18) (by decide) (by decide) (by decide))) rfl ?_
   rintro _ _ ⟨rfl, rfl⟩
   refine ⟨.inr entX, ?_⟩
   refine RH.val 9 rfl krX krX krX krX (Wanted.free rfl) (V.bin rfl rfl rfl (B.xor32)) rfl ?_
   refine RH.val 12 rfl krX krX krX krX (Wanted.free rfl) (V.bin rfl rfl rfl (B.xor32)) rfl ?_
   refine RH.val 13 rfl krX krX krX krX (Wanted.free rfl) (V.bin rfl rfl rfl (B.add32)) rfl ?_
   refine RH.val 18 rfl krX krX krX krX (Wanted.free rfl) (V.bin rfl rfl rfl (B.add32)) rfl ?_
   refine RH.one (i := 20) krX ?_
   refine RHone.eff rfl (Wanted.free rfl) (E.call rfl go99 rfl (rot_ok (r := 17) (by decide) (by decide) (by decide))) rfl ?_
   rintro _ _ ⟨rfl, rfl⟩
   refine ⟨.inr entX, ?_⟩
   refine RH.one (i := 22) krX ?_
   refine RHone.eff rfl (Wanted.free rfl) (E.call rfl go99 rfl (rot_ok (r := 19) (by decide) (by decide) (by decide))) rfl ?_
   rintro _ _ ⟨rfl, rfl⟩
   refine ⟨.inr entX, ?_⟩
   refine RH.val 23 rfl krX krX krX krX (Wanted.free rfl) (V.bin rfl rfl rfl (B.xor32)) rfl ?_
   refine RH.val 26 rfl krX krX krX krX (Wanted.free rfl) (V.bin rfl rfl rfl (B.xor32)) rfl ?_
   refine RH.val 27 rfl krX krX krX krX (Wanted.free rfl) (V.bin rfl rfl rfl (B.add32)) rfl ?_
   refine RH.val 28 rfl krX krX krX krX (Wanted.free rfl) (V.indexW (j := t) rfl ar138 rfl rfl (by first | rfl | omega) (by omega)) rfl ?_
   refine RH.one (i := 29) krX ?_
   refine RHone.eff rfl (Wanted.free rfl) (E.storeW rfl rfl rfl sz108 pickX (by rw [wx_length (by omega)]; omega)) rfl ?_
   rintro _ _ rfl
   refine ⟨.inl krX, ?_⟩
   rw [wx_set]
   refine RH.ent (Blk.eqw (wx_done (by omega) (by rw [nxt_hi (by omega)]; rfl))) ?_
   refine RH.done krX ?_
   refine SG.inBlock ?_
   refine SG.region ?_
   refine RL.val (Wanted.free rfl) (V.move rfl rfl) rfl ?_
   refine RL.val (Wanted.free rfl) (V.bin rfl rfl rfl (B.addI (by omega) (by omega))) rfl ?_
   refine RL.val (Wanted.free rfl) (V.assign rfl rfl) rfl ?_
   refine RL.nil ?_
   refine SG.weaken (ih0 _ _ _ ?_ ⟨t + 1, by omega, rfl, rfl, rfl⟩) ?_ ?_
   ·
    omega
   ·
    repeat (first | exact EnvLe.nil _ | refine EnvLe.cons rfl ?_)
   ·
    exact entX
 ·
  refine RL.nil ?_
  refine SG.cond_false rfl ?_
  refine SG.exit rfl ?_
  refine SG.seq ?_
  obtain rfl : t = 64 := by omega
  rw [wz_full]
  refine SG.region ?_
  refine RL.val (Wanted.free rfl) (V.loadAgg (us := (ws l 64).map v32) rfl ag138 rfl pickX (take_all (ws_length _ _)) (by simp [ws_length])) rfl ?_
  refine RL.eff (Wanted.free rfl) (E.storeWhole rfl rfl rfl (by simp [ws_length]) sz138 pickX (one32 _) (by simp)) rfl ?_
  rintro _ _ rfl
  refine RL.nil ?_
  refine SG.retE (Ret.r1 Tryd.func97 rfl (.agg rfl ag138 pickX (take_all (ws_length _ _)) (by simp [ws_length]))) ?_ ⟨rfl, rfl⟩
  exact entX

set_option maxRecDepth 100000 in
set_option maxHeartbeats 2000000 in
theorem rblock_ok {κ : World} {L : List Assn} {H : List UInt32} {a : Option Addr} {n c : Nat} {l : List UInt8} (hH : H.length = 8) (hm : Sl R8 a n c l ∈ L) (hl : 64 ≤ l.length) :
    Ctr Tryd.prog 94 #[.agg (H.map v32).toArray, .slice a n c] κ L (fun v M => v = .agg ((block H l).map v32).toArray ∧ M = L) := by
 refine Ctr.enter (vs := [.agg (H.map v32).toArray, .slice a n c]) (m := 112) Tryd.func94 rfl rfl rfl ?_
 refine SG.seq ?_
 refine SG.region ?_
 refine RL.eff (Wanted.free rfl) (E.box _ rfl rfl rfl) rfl ?_
 rintro _ _ ⟨b2, rfl, rfl⟩
 refine RL.eff (Wanted.free rfl) (E.alloc rfl ze109) rfl ?_
 rintro _ _ ⟨b4, rfl, rfl⟩
 refine RL.nil ?_
 refine SG.seq ?_
 refine SG.region ?_
 refine RL.val (Wanted.free rfl) (V.move rfl rfl) rfl ?_
 refine RL.eff (Wanted.free rfl) (E.call rfl go97 rfl (sched_ok memX (by omega))) rfl ?_
 rintro _ _ ⟨rfl, rfl⟩
 refine RL.eff (Wanted.free rfl) (E.alloc rfl ze138) rfl ?_
 rintro _ _ ⟨b5, rfl, rfl⟩
 refine RL.eff (Wanted.free rfl) (E.storeWhole rfl rfl rfl (by simp [ws_length]) sz138 pickX (one32 _) (by simp)) rfl ?_
 rintro _ _ rfl
 refine RL.nil ?_
 refine SG.seq ?_
 refine SG.region ?_
 refine RL.eff (Wanted.free rfl) (E.call rfl go98 rfl (round_ok)) rfl ?_
 rintro _ _ ⟨rfl, rfl⟩
 refine RL.eff (Wanted.free rfl) (E.alloc rfl ze138) rfl ?_
 rintro _ _ ⟨b6, rfl, rfl⟩
 refine RL.eff (Wanted.free rfl) (E.storeWhole rfl rfl rfl (by rfl) sz138 pickX (one32 _) (by rw [List.length_replicate])) rfl ?_
 rintro _ _ rfl
 refine RL.nil ?_
 refine SG.seq ?_
 refine SG.region ?_
 refine RL.val (Wanted.free rfl) (V.loadAgg (us := H.map v32) rfl ag109 rfl pickX (take_all hH) (by simp [hH])) rfl ?_
 refine RL.eff (Wanted.free rfl) (E.alloc rfl ze109) rfl ?_
 rintro _ _ ⟨b7, rfl, rfl⟩
 refine RL.eff (Wanted.free rfl) (E.storeWhole rfl rfl rfl (by simp [hH]) sz109 pickX (one32 _) rfl) rfl ?_
 rintro _ _ rfl
 refine RL.nil ?_
 refine SG.seq ?_
 refine SG.seq ?_
 refine SG.region ?_
 refine RL.val (Wanted.free rfl) (V.assign rfl rfl) rfl ?_
 refine RL.nil ?_
 refine SG.block ?_
 refine SG.weaken (SG.loop2 (fun m al M => ∃ t : Nat, t ≤ 64 ∧ m = 64 - t ∧ al = [(2, ptr b2 0), (4, ptr b4 0), (5, ptr b5 0), (6, ptr b6 0), (7, ptr b7 0), (8, vI t)] ∧ M = Blk b7 109 ((run H (ws l 64) t).map v32) :: Blk b5 138 ((ws l 64).map v32) :: Blk b6 138 (KK.map v32) :: Blk b4 109 [.int .u32 0, .int .u32 0, .int .u32 0, .int .u32 0, .int .u32 0, .int .u32 0, .int .u32 0, .int .u32 0] :: Blk b2 109 (H.map v32) :: L) (m0 := _) ⟨0, by omega, rfl, rfl, rfl⟩ ?_) ?_ ?_
 rotate_left
 ·
  repeat (first | exact EnvLe.nil _ | refine EnvLe.cons rfl ?_)
 ·
  exact entX
 rintro _ _ _ ⟨t, ht, rfl, rfl, rfl⟩ ih0
 refine SG.seq ?_
 refine SG.seq ?_
 refine SG.region ?_
 refine RL.val (Wanted.free rfl) (V.move rfl rfl) rfl ?_
 refine RL.cmp (Wanted.free rfl) (V.bin rfl rfl rfl B.lss) rfl (fun h15 => ?_) (fun h15 => ?_)
 ·
  refine RL.nil ?_
  refine SG.cond_true rfl ?_
  refine SG.skip ?_
  refine SG.seq ?_
  refine SG.block ?_
  refine SG.seq ?_
  obtain ⟨x0, x1, x2, x3, x4, x5, x6, x7, hr⟩ := eight (run_length H (ws l 64) hH t)
  rw [hr]
  refine SG.region ?_
  refine RL.val (Wanted.free rfl) (V.indexW (j := 4) rfl ar109 rfl rfl (by first | rfl | omega) (by omega)) rfl ?_
  refine RL.val (Wanted.free rfl) (V.load rfl on108 rfl pickX rfl) rfl ?_
  refine RL.val (Wanted.free rfl) (V.assign rfl rfl) rfl ?_
  refine RL.nil ?_
  refine SG.seq ?_
  refine SG.region ?_
  refine RL.val (Wanted.free rfl) (V.indexW (j := 0) rfl ar109 rfl rfl (by first | rfl | omega) (by omega)) rfl ?_
  refine RL.val (Wanted.free rfl) (V.load rfl on108 rfl pickX rfl) rfl ?_
  refine RL.val (Wanted.free rfl) (V.assign rfl rfl) rfl ?_
  refine RL.nil ?_
  refine SG.seq ?_
  refine SG.drawL 31 31 wide rfl rfl ?_
  refine RH.val 0 rfl krX krX krX krX (Wanted.free rfl) (V.indexW (j := 7) rfl ar109 rfl rfl (by first | rfl | omega) (by omega)) rfl ?_
  refine RH.val 1 rfl krX krX krX krX (Wanted.free rfl) (V.load rfl on108 rfl pickX rfl) rfl ?_
  refine RH.val 2 rfl krX krX krX krX (Wanted.free rfl) (V.move rfl rfl) rfl ?_
  refine RH.val 4 rfl krX krX krX krX (Wanted.free rfl) (V.move rfl rfl) rfl ?_
  refine RH.val 7 rfl krX krX krX krX (Wanted.free rfl) (V.move rfl rfl) rfl ?_
  refine RH.val 11 rfl krX krX krX krX (Wanted.free rfl) (V.move rfl rfl) rfl ?_
  refine RH.val 12 rfl krX krX krX krX (Wanted.free rfl) (V.indexW (j := 5) rfl ar109 rfl rfl (by first | rfl | omega) (by omega)) rfl ?_
  refine RH.val 13 rfl krX krX krX krX (Wanted.free rfl) (V.load rfl on108 rfl pickX rfl) rfl ?_
  refine RH.val 14 rfl krX krX krX krX (Wanted.free rfl) (V.bin rfl rfl rfl (B.and32)) rfl ?_
  refine RH.val 15 rfl krX krX krX krX (Wanted.free rfl) (V.move rfl rfl) rfl ?_
  refine RH.val 16 rfl krX krX krX krX (Wanted.free rfl) (V.compl32 rfl rfl) rfl ?_
  refine RH.val 17 rfl krX krX krX krX (Wanted.free rfl) (V.indexW (j := 6) rfl ar109 rfl rfl (by first | rfl | omega) (by omega)) rfl ?_
  refine RH.val 18 rfl krX krX krX krX (Wanted.free rfl) (V.load rfl on108 rfl pickX rfl) rfl ?_
  refine RH.val 19 rfl krX krX krX krX (Wanted.free rfl) (V.bin rfl rfl rfl (B.and32)) rfl ?_
  refine RH.val 20 rfl krX krX krX krX (Wanted.free rfl) (V.bin rfl rfl rfl (B.xor32)) rfl ?_
  refine RH.val 22 rfl krX krX krX krX (Wanted.free rfl) (V.move rfl rfl) rfl ?_
  refine RH.val 23 rfl krX krX krX krX (Wanted.free rfl) (V.indexW (j := t) rfl ar138 rfl rfl (by first | rfl | omega) (by omega)) rfl ?_
  refine RH.val 24 rfl krX krX krX krX (Wanted.free rfl) (V.loadW rfl on108 rfl pickX (getD_some (l := KK) 0 (show t < 64 by omega))) rfl ?_
  refine RH.val 26 rfl krX krX krX krX (Wanted.free rfl) (V.move rfl rfl) rfl ?_
  refine RH.val 27 rfl krX krX krX krX (Wanted.free rfl) (V.indexW (j := t) rfl ar138 rfl rfl (by first | rfl | omega) (by omega)) rfl ?_
  refine RH.val 28 rfl krX krX krX krX (Wanted.free rfl) (V.loadW rfl on108 rfl pickX (getD_some 0 (by rw [ws_length]; omega))) rfl ?_
  refine RH.one (i := 3) krX ?_
  refine RHone.eff rfl (Wanted.free rfl) (E.call rfl go99 rfl (rot_ok (r := 6) (by decide) (by decide) (by decide))) rfl ?_
  rintro _ _ ⟨rfl, rfl⟩
  refine ⟨.inr entX, ?_⟩
  refine RH.one (i := 5) krX ?_
  refine RHone.eff rfl (Wanted.free rfl) (E.call rfl go99 rfl (rot_ok (r := 11) (by decide) (by decide) (by decide))) rfl ?_
  rintro _ _ ⟨rfl, rfl⟩
  refine ⟨.inr entX, ?_⟩
  refine RH.val 6 rfl krX krX krX krX (Wanted.free rfl) (V.bin rfl rfl rfl (B.xor32)) rfl ?_
  refine RH.one (i := 8) krX ?_
  refine RHone.eff rfl (Wanted.free rfl) (E.call rfl go99 rfl (rot_ok (r := 25) (by decide) (by decide) (by decide))) rfl ?_
  rintro _ _ ⟨rfl, rfl⟩
  refine ⟨.inr entX, ?_⟩
  refine RH.val 9 rfl krX krX krX krX (Wanted.free rfl) (V.bin rfl rfl rfl (B.xor32)) rfl ?_
  refine RH.val 10 rfl krX krX krX krX (Wanted.free rfl) (V.bin rfl rfl rfl (B.add32)) rfl ?_
  refine RH.val 21 rfl krX krX krX krX (Wanted.free rfl) (V.bin rfl rfl rfl (B.add32)) rfl ?_
  refine RH.val 25 rfl krX krX krX krX (Wanted.free rfl) (V.bin rfl rfl rfl (B.add32)) rfl ?_
  refine RH.val 29 rfl krX krX krX krX (Wanted.free rfl) (V.bin rfl rfl rfl (B.add32)) rfl ?_
  refine RH.val 30 rfl krX krX krX krX (Wanted.free rfl) (V.assign rfl rfl) rfl ?_
  refine RH.done krX ?_
  refine SG.seq ?_
  refine SG.drawL 25 25 wide rfl rfl ?_
  refine RH.val 0 rfl krX krX krX krX (Wanted.free rfl) (V.move rfl rfl) rfl ?_
  refine RH.val 2 rfl krX krX krX krX (Wanted.free rfl) (V.move rfl rfl) rfl ?_
  refine RH.val 5 rfl krX krX krX krX (Wanted.free rfl) (V.move rfl rfl) rfl ?_
  refine RH.val 8 rfl krX krX krX krX (Wanted.free rfl) (V.move rfl rfl) rfl ?_
  refine RH.val 9 rfl krX krX krX krX (Wanted.free rfl) (V.indexW (j := 1) rfl ar109 rfl rfl (by first | rfl | omega) (by omega)) rfl ?_
  refine RH.val 10 rfl krX krX krX krX (Wanted.free rfl) (V.load rfl on108 rfl pickX rfl) rfl ?_
  refine RH.val 11 rfl krX krX krX krX (Wanted.free rfl) (V.bin rfl rfl rfl (B.and32)) rfl ?_
  refine RH.val 12 rfl krX krX krX krX (Wanted.free rfl) (V.move rfl rfl) rfl ?_
  refine RH.val 13 rfl krX krX krX krX (Wanted.free rfl) (V.indexW (j := 2) rfl ar109 rfl rfl (by first | rfl | omega) (by omega)) rfl ?_
  refine RH.val 14 rfl krX krX krX krX (Wanted.free rfl) (V.load rfl on108 rfl pickX rfl) rfl ?_
  refine RH.val 15 rfl krX krX krX krX (Wanted.free rfl) (V.bin rfl rfl rfl (B.and32)) rfl ?_
  refine RH.val 16 rfl krX krX krX krX (Wanted.free rfl) (V.bin rfl rfl rfl (B.xor32)) rfl ?_
  refine RH.val 17 rfl krX krX krX krX (Wanted.free rfl) (V.indexW (j := 1) rfl ar109 rfl rfl (by first | rfl | omega) (by omega)) rfl ?_
  refine RH.val 18 rfl krX krX krX krX (Wanted.free rfl) (V.load rfl on108 rfl pickX rfl) rfl ?_
  refine RH.val 19 rfl krX krX krX krX (Wanted.free rfl) (V.indexW (j := 2) rfl ar109 rfl rfl (by first | rfl | omega) (by omega)) rfl ?_
  refine RH.val 20 rfl krX krX krX krX (Wanted.free rfl) (V.load rfl on108 rfl pickX rfl) rfl ?_
  refine RH.val 21 rfl krX krX krX krX (Wanted.free rfl) (V.bin rfl rfl rfl (B.and32)) rfl ?_
  refine RH.val 22 rfl krX krX krX krX (Wanted.free rfl) (V.bin rfl rfl rfl (B.xor32)) rfl ?_
  refine RH.one (i := 1) krX ?_
  refine RHone.eff rfl (Wanted.free rfl) (E.call rfl go99 rfl (rot_ok (r := 2) (by decide) (by decide) (by decide))) rfl ?_
  rintro _ _ ⟨rfl, rfl⟩
  refine ⟨.inr entX, ?_⟩
  refine RH.one (i := 3) krX ?_
  refine RHone.eff rfl (Wanted.free rfl) (E.call rfl go99 rfl (rot_ok (r := 13) (by decide) (by decide) (by decide))) rfl ?_
  rintro _ _ ⟨rfl, rfl⟩
  refine ⟨.inr entX, ?_⟩
  refine RH.val 4 rfl krX krX krX krX (Wanted.free rfl) (V.bin rfl rfl rfl (B.xor32)) rfl ?_
  refine RH.one (i := 6) krX ?_
  refine RHone.eff rfl (Wanted.free rfl) (E.call rfl go99 rfl (rot_ok (r := 22) (by decide) (by decide) (by decide))) rfl ?_
  rintro _ _ ⟨rfl, rfl⟩
  refine ⟨.inr entX, ?_⟩
  refine RH.val 7 rfl krX krX krX krX (Wanted.free rfl) (V.bin rfl rfl rfl (B.xor32)) rfl ?_
  refine RH.val 23 rfl krX krX krX krX (Wanted.free rfl) (V.bin rfl rfl rfl (B.add32)) rfl ?_
  refine RH.val 24 rfl krX krX krX krX (Wanted.free rfl) (V.assign rfl rfl) rfl ?_
  refine RH.done krX ?_
  refine SG.region ?_
  refine RL.val (Wanted.free rfl) (V.move rfl rfl) rfl ?_
  refine RL.val (Wanted.free rfl) (V.move rfl rfl) rfl ?_
  refine RL.val (Wanted.free rfl) (V.bin rfl rfl rfl (B.add32)) rfl ?_
  refine RL.val (Wanted.free rfl) (V.move rfl rfl) rfl ?_
  refine RL.val (Wanted.free rfl) (V.indexW (j := 1) rfl ar109 rfl rfl (by first | rfl | omega) (by omega)) rfl ?_
  refine RL.val (Wanted.free rfl) (V.load rfl on108 rfl pickX rfl) rfl ?_
  refine RL.val (Wanted.free rfl) (V.indexW (j := 2) rfl ar109 rfl rfl (by first | rfl | omega) (by omega)) rfl ?_
  refine RL.val (Wanted.free rfl) (V.load rfl on108 rfl pickX rfl) rfl ?_
  refine RL.val (Wanted.free rfl) (V.indexW (j := 3) rfl ar109 rfl rfl (by first | rfl | omega) (by omega)) rfl ?_
  refine RL.val (Wanted.free rfl) (V.load rfl on108 rfl pickX rfl) rfl ?_
  refine RL.val (Wanted.free rfl) (V.move rfl rfl) rfl ?_
  refine RL.val (Wanted.free rfl) (V.bin rfl rfl rfl (B.add32)) rfl ?_
  refine RL.val (Wanted.free rfl) (V.move rfl rfl) rfl ?_
  refine RL.val (Wanted.free rfl) (V.indexW (j := 5) rfl ar109 rfl rfl (by first | rfl | omega) (by omega)) rfl ?_
  refine RL.val (Wanted.free rfl) (V.load rfl on108 rfl pickX rfl) rfl ?_
  refine RL.val (Wanted.free rfl) (V.indexW (j := 6) rfl ar109 rfl rfl (by first | rfl | omega) (by omega)) rfl ?_
  refine RL.val (Wanted.free rfl) (V.load rfl on108 rfl pickX rfl) rfl ?_
  refine RL.val (Wanted.free rfl) (V.buildA [(0, _), (1, _), (2, _), (3, _), (4, _), (5, _), (6, _), (7, _)] rfl ba109 (by exact ⟨rfl, ⟨_, rfl, rfl⟩, ⟨rfl, ⟨_, rfl, rfl⟩, ⟨rfl, ⟨_, rfl, rfl⟩, ⟨rfl, ⟨_, rfl, rfl⟩, ⟨rfl, ⟨_, rfl, rfl⟩, ⟨rfl, ⟨_, rfl, rfl⟩, ⟨rfl, ⟨_, rfl, rfl⟩, ⟨rfl, ⟨_, rfl, rfl⟩, trivial⟩⟩⟩⟩⟩⟩⟩⟩) rfl) rfl ?_
  refine RL.let_ (d := 97) (u' := .agg ((rnd [x0, x1, x2, x3, x4, x5, x6, x7] (KK.getD t 0) ((ws l 64).getD t 0)).map v32).toArray) rfl rfl ?_
  refine RL.eff (Wanted.free rfl) (E.storeWhole rfl rfl rfl (by rw [List.length_map]; exact rnd_length _ _ _ rfl) sz109 pickX (one32 _) (by simp)) rfl ?_
  rintro _ _ rfl
  refine RL.nil ?_
  refine SG.inBlock ?_
  refine SG.region ?_
  refine RL.val (Wanted.free rfl) (V.move rfl rfl) rfl ?_
  refine RL.val (Wanted.free rfl) (V.bin rfl rfl rfl (B.addI (by omega) (by omega))) rfl ?_
  refine RL.val (Wanted.free rfl) (V.assign rfl rfl) rfl ?_
  refine RL.nil ?_
  refine SG.weaken (ih0 _ _ _ ?_ ⟨t + 1, by omega, rfl, rfl, rfl⟩) ?_ ?_
  ·
   omega
  ·
   repeat (first | exact EnvLe.nil _ | refine EnvLe.cons rfl ?_)
  ·
   rw [run, hr]
   exact entX
 ·
  refine RL.nil ?_
  refine SG.cond_false rfl ?_
  refine SG.exit rfl ?_
  refine SG.seq ?_
  refine SG.seq ?_
  refine SG.region ?_
  refine RL.val (Wanted.free rfl) (V.assign rfl rfl) rfl ?_
  refine RL.nil ?_
  refine SG.block ?_
  obtain rfl : t = 64 := by omega
  refine SG.weaken (SG.loop2 (fun m al M => ∃ i : Nat, i ≤ 8 ∧ m = 8 - i ∧ al = [(2, ptr b2 0), (4, ptr b4 0), (7, ptr b7 0), (13, vI i)] ∧ M = Blk b2 109 ((mix H (run H (ws l 64) 64) i).map v32) :: Blk b7 109 ((run H (ws l 64) 64).map v32) :: Blk b4 109 [.int .u32 0, .int .u32 0, .int .u32 0, .int .u32 0, .int .u32 0, .int .u32 0, .int .u32 0, .int .u32 0] :: L) (m0 := _) ⟨0, by omega, rfl, rfl, rfl⟩ ?_) ?_ ?_
  rotate_left
  ·
   repeat (first | exact EnvLe.nil _ | refine EnvLe.cons rfl ?_)
  ·
   exact entX
  rintro _ _ _ ⟨i, hi, rfl, rfl, rfl⟩ ih1
  refine SG.seq ?_
  refine SG.seq ?_
  refine SG.region ?_
  refine RL.val (Wanted.free rfl) (V.move rfl rfl) rfl ?_
  refine RL.cmp (Wanted.free rfl) (V.bin rfl rfl rfl B.lss) rfl (fun h102 => ?_) (fun h102 => ?_)
  ·
   refine RL.nil ?_
   refine SG.cond_true rfl ?_
   refine SG.skip ?_
   refine SG.seq ?_
   refine SG.block ?_
   refine SG.drawL 10 9 wide rfl rfl ?_
   refine RH.val 0 rfl krX krX krX krX (Wanted.free rfl) (V.move rfl rfl) rfl ?_
   refine RH.val 1 rfl krX krX krX krX (Wanted.free rfl) (V.move rfl rfl) rfl ?_
   refine RH.val 2 rfl krX krX krX krX (Wanted.free rfl) (V.indexW (j := i) rfl ar109 rfl rfl (by first | rfl | omega) (by omega)) rfl ?_
   refine RH.val 3 rfl krX krX krX krX (Wanted.free rfl) (V.loadW rfl on108 rfl pickX (getD_some 0 (by rw [mix_length hH (run_length _ _ hH _) (by omega)]; omega))) rfl ?_
   refine RH.val 4 rfl krX krX krX krX (Wanted.free rfl) (V.move rfl rfl) rfl ?_
   refine RH.val 5 rfl krX krX krX krX (Wanted.free rfl) (V.indexW (j := i) rfl ar109 rfl rfl (by first | rfl | omega) (by omega)) rfl ?_
   refine RH.val 6 rfl krX krX krX krX (Wanted.free rfl) (V.loadW rfl on108 rfl pickX (getD_some 0 (by rw [run_length _ _ hH]; omega))) rfl ?_
   refine RH.val 7 rfl krX krX krX krX (Wanted.free rfl) (V.bin rfl rfl rfl (B.add32)) rfl ?_
   refine RH.val 8 rfl krX krX krX krX (Wanted.free rfl) (V.indexW (j := i) rfl ar109 rfl rfl (by first | rfl | omega) (by omega)) rfl ?_
   refine RH.one (i := 9) krX ?_
   refine RHone.eff rfl (Wanted.free rfl) (E.storeW rfl rfl rfl sz108 pickX (by rw [mix_length hH (run_length _ _ hH _) (by omega)]; omega)) rfl ?_
   rintro _ _ rfl
   refine ⟨.inl krX, ?_⟩
   rw [mix_step hH (run_length _ _ hH _) (by omega)]
   refine RH.done krX ?_
   refine SG.inBlock ?_
   refine SG.region ?_
   refine RL.val (Wanted.free rfl) (V.move rfl rfl) rfl ?_
   refine RL.val (Wanted.free rfl) (V.bin rfl rfl rfl (B.addI (by omega) (by omega))) rfl ?_
   refine RL.val (Wanted.free rfl) (V.assign rfl rfl) rfl ?_
   refine RL.nil ?_
   refine SG.weaken (ih1 _ _ _ ?_ ⟨i + 1, by omega, rfl, rfl, rfl⟩) ?_ ?_
   ·
    omega
   ·
    repeat (first | exact EnvLe.nil _ | refine EnvLe.cons rfl ?_)
   ·
    exact entX
  ·
   refine RL.nil ?_
   refine SG.cond_false rfl ?_
   refine SG.exit rfl ?_
   refine SG.seq ?_
   obtain rfl : i = 8 := by omega
   refine SG.region ?_
   refine RL.val (Wanted.free rfl) (V.loadAgg (us := (mix H (run H (ws l 64) 64) 8).map v32) rfl ag109 rfl pickX (take_all (mix_length hH (run_length _ _ hH _) (by omega))) (by rw [List.length_map]; exact mix_length hH (run_length _ _ hH _) (by omega))) rfl ?_
   refine RL.eff (Wanted.free rfl) (E.storeWhole rfl rfl rfl (by rw [List.length_map]; exact mix_length hH (run_length _ _ hH _) (by omega)) sz109 pickX (one32 _) rfl) rfl ?_
   rintro _ _ rfl
   refine RL.nil ?_
   refine SG.retE (Ret.r1 Tryd.func94 rfl (.agg rfl ag109 pickX (take_all (mix_length hH (run_length _ _ hH _) (by omega))) (by rw [List.length_map]; exact mix_length hH (run_length _ _ hH _) (by omega)))) ?_ ⟨by rw [mix_all hH (run_length _ _ hH _)]; rfl, rfl⟩
   exact entX

set_option maxRecDepth 100000 in
theorem blocks_ok {κ : World} {L : List Assn} {a : Option Addr} {n c : Nat} {l : List UInt8} (hm : Sl R8 a n c l ∈ L) (hb : l.length ≤ 281474976710656) :
    Ctr Tryd.prog 80 #[.slice a n c] κ L (fun v M => v = .agg ((feed first l).map v32).toArray ∧ M = L) := by
 refine Ctr.enter (vs := [.slice a n c]) (m := 21) Tryd.func80 rfl rfl rfl ?_
 refine SG.sl hm fun hn hc hc63 => ?_
 subst hn
 refine SG.seq ?_
 refine SG.region ?_
 refine RL.eff (Wanted.free rfl) (E.alloc rfl ze109) rfl ?_
 rintro _ _ ⟨b2, rfl, rfl⟩
 refine RL.nil ?_
 refine SG.seq ?_
 refine SG.region ?_
 refine RL.eff (Wanted.free rfl) (E.call rfl go93 rfl (first_ok)) rfl ?_
 rintro _ _ ⟨rfl, rfl⟩
 refine RL.eff (Wanted.free rfl) (E.alloc rfl ze109) rfl ?_
 rintro _ _ ⟨b3, rfl, rfl⟩
 refine RL.eff (Wanted.free rfl) (E.storeWhole rfl rfl rfl (by rfl) sz109 pickX (one32 _) (by rfl)) rfl ?_
 rintro _ _ rfl
 refine RL.nil ?_
 refine SG.seq ?_
 refine SG.seq ?_
 refine SG.region ?_
 refine RL.val (Wanted.free rfl) (V.assign rfl rfl) rfl ?_
 refine RL.nil ?_
 refine SG.block ?_
 refine SG.weaken (SG.loop2 (fun m al M => ∃ j : Nat, 64 * j ≤ l.length ∧ m = l.length - 64 * j ∧ al = [(0, .slice a l.length c), (2, ptr b2 0), (3, ptr b3 0), (4, vI (64 * j : Nat))] ∧ M = Blk b3 109 ((blocks j first l).map v32) :: Blk b2 109 [.int .u32 0, .int .u32 0, .int .u32 0, .int .u32 0, .int .u32 0, .int .u32 0, .int .u32 0, .int .u32 0] :: L) (m0 := _) ⟨0, by omega, rfl, rfl, rfl⟩ ?_) ?_ ?_
 rotate_left
 ·
  repeat (first | exact EnvLe.nil _ | refine EnvLe.cons rfl ?_)
 ·
  exact entX
 rintro _ _ _ ⟨j, hj, rfl, rfl, rfl⟩ ih0
 refine SG.seq ?_
 refine SG.seq ?_
 refine SG.region ?_
 refine RL.val (Wanted.free rfl) (V.move rfl rfl) rfl ?_
 refine RL.val (Wanted.free rfl) (V.bin rfl rfl rfl (B.addI (by omega) (by omega))) rfl ?_
 refine RL.val (Wanted.free rfl) (V.move rfl rfl) rfl ?_
 refine RL.val (Wanted.free rfl) (V.len rfl rfl el62.under rfl) rfl ?_
 refine RL.cmp (Wanted.free rfl) (V.bin rfl rfl rfl B.leq) rfl (fun h10 => ?_) (fun h10 => ?_)
 ·
  refine RL.nil ?_
  refine SG.cond_true rfl ?_
  refine SG.skip ?_
  refine SG.seq ?_
  refine SG.block ?_
  refine SG.cut (lo := 64 * j) (hi := 64 * j + 64) memX (by omega) (by omega) rfl ?_
  refine SG.drawL 8 7 wide rfl rfl ?_
  refine RH.val 0 rfl krX krX krX krX (Wanted.free rfl) (V.loadAgg (us := (blocks j first l).map v32) rfl ag109 rfl pickX (take_all (blocks_length _ first l first_length)) (by rw [List.length_map]; exact blocks_length _ first l first_length)) rfl ?_
  refine RH.val 1 rfl krX krX krX krX (Wanted.free rfl) (V.move rfl rfl) rfl ?_
  refine RH.val 2 rfl krX krX krX krX (Wanted.free rfl) (V.move rfl rfl) rfl ?_
  refine RH.val 3 rfl krX krX krX krX (Wanted.free rfl) (V.move rfl rfl) rfl ?_
  refine RH.val 4 rfl krX krX krX krX (Wanted.free rfl) (V.bin rfl rfl rfl (B.addI (by omega) (by omega))) rfl ?_
  refine RH.val 5 rfl krX krX krX krX (Wanted.free rfl) (V.slice (T := R8) (lo := 64 * j) (hi := 64 * j + 64) rfl el62.slice rfl ⟨_, _, rfl, (by first | rfl | omega)⟩ ⟨_, _, rfl, (by first | rfl | omega)⟩ (by omega) (by omega)) rfl ?_
  refine RH.one (i := 6) krX ?_
  refine RHone.eff rfl (Wanted.free rfl) (E.call rfl go94 rfl (rblock_ok (H := blocks j first l) (blocks_length _ first l first_length) memX (by simp; omega))) rfl ?_
  rintro _ _ ⟨rfl, rfl⟩
  refine ⟨.inr entX, ?_⟩
  refine RH.one (i := 7) krX ?_
  refine RHone.eff rfl (Wanted.free rfl) (E.storeWhole rfl rfl rfl (by rw [List.length_map]; exact block_length _ _ (blocks_length _ first l first_length)) sz109 pickX (one32 _) (by rw [List.length_map]; exact blocks_length _ first l first_length)) rfl ?_
  rintro _ _ rfl
  refine ⟨.inl krX, ?_⟩
  refine RH.ent (Blk.eqw (l' := blocks (j + 1) first l) (by rw [show 64 * j + 64 - 64 * j = 64 from by omega, block_take, blocks_snoc])) ?_
  refine RH.done krX ?_
  refine SG.inBlock ?_
  refine SG.region ?_
  refine RL.val (Wanted.free rfl) (V.move rfl rfl) rfl ?_
  refine RL.val (Wanted.free rfl) (V.bin rfl rfl rfl (B.addI (by omega) (by omega))) rfl ?_
  refine RL.val (Wanted.free rfl) (V.assign rfl rfl) rfl ?_
  refine RL.nil ?_
  refine SG.weaken (ih0 _ _ _ ?_ ⟨j + 1, by omega, rfl, rfl, rfl⟩) ?_ ?_
  ·
   omega
  ·
   repeat (first | exact EnvLe.nil _ | refine EnvLe.cons rfl ?_)
  ·
   exact entX
 ·
  refine RL.nil ?_
  refine SG.cond_false rfl ?_
  refine SG.exit rfl ?_
  refine SG.seq ?_
  refine SG.ent (Blk.eqw (l' := feed first l) (by rw [feed, show l.length / 64 = j from by omega])) ?_
  refine SG.region ?_
  refine RL.val (Wanted.free rfl) (V.loadAgg (us := (feed first l).map v32) rfl ag109 rfl pickX (take_all (feed_length _ l first_length)) (by rw [List.length_map]; exact feed_length _ l first_length)) rfl ?_
  refine RL.eff (Wanted.free rfl) (E.storeWhole rfl rfl rfl (by rw [List.length_map]; exact feed_length _ l first_length) sz109 pickX (one32 _) rfl) rfl ?_
  rintro _ _ rfl
  refine RL.nil ?_
  refine SG.retE (Ret.r1 Tryd.func80 rfl (.agg rfl ag109 pickX (take_all (feed_length _ l first_length)) (by rw [List.length_map]; exact feed_length _ l first_length))) ?_ ⟨rfl, rfl⟩
  exact entX

end Go.Proofs.YtcbloadpffjkiaaDoor
