/- Hash values. -/
import Derived.Test.YtcbloadpffjkiaaDoorZStates
namespace Go.Proofs.YtcbloadpffjkiaaDoor
open Go.Wk Go.Sha

set_option maxRecDepth 100000 in
set_option maxHeartbeats 1000000 in
theorem close_ok {κ : World} {L : List Assn} {H : List UInt32} {a : Option Addr} {n c : Nat} {t : List UInt8} {len : Nat} (hH : H.length = 8) (hm : Sl R8 a n c t ∈ L) (hT : Tab L) (ht : t.length < 64) (hl : len ≤ 2305843009213693951) :
    Ctr Tryd.prog 71 #[.agg (dg H (.slice a n c) (vI (len : Int))).toArray] κ L (fun v M => v = .agg ((out (feed H (t ++ ends len))).map v8).toArray ∧ M = L) := by
 refine Ctr.enter (vs := [.agg (dg H (.slice a n c) (vI (len : Int))).toArray]) (m := 57) Tryd.func71 rfl rfl rfl ?_
 unfold Tab at hT
 refine SG.sl hm fun hn hc hc63 => ?_
 subst hn
 refine SG.seq ?_
 refine SG.region ?_
 refine RL.eff (Wanted.free rfl) (E.box _ rfl rfl rfl) rfl ?_
 rintro _ _ ⟨b1, rfl, rfl⟩
 refine RL.eff (Wanted.free rfl) (E.alloc rfl ze25) rfl ?_
 rintro _ _ ⟨b2, rfl, rfl⟩
 refine RL.nil ?_
 refine SG.seq ?_
 refine SG.region ?_
 refine RL.val (Wanted.free rfl) (V.fieldAddr rfl rfl fo111_2) rfl ?_
 refine RL.val (Wanted.free rfl) (V.load rfl on3 rfl pickX (dg_9 hH)) rfl ?_
 refine RL.val (Wanted.free rfl) (V.to64 rfl ⟨_, ui3⟩ ui99 rfl) rfl ?_
 rw [show UInt64.ofNat ((len : Int) % 18446744073709551616).toNat = UInt64.ofNat len from by congr 1; omega]
 refine RL.val (Wanted.free rfl) (V.bin rfl rfl rfl (B.mul64 (y := 8))) rfl ?_
 refine RL.val (Wanted.free rfl) (V.assign rfl rfl) rfl ?_
 refine RL.nil ?_
 refine SG.seq ?_
 refine SG.region ?_
 refine RL.eff (Wanted.free rfl) (E.lit1 [.int .u8 128] rfl el62.slice ze5 rfl (by decide) (by decide) rfl rfl rfl) rfl ?_
 rintro _ _ ⟨b14, rfl, rfl⟩
 refine RL.ent (Buf.lit1' (T := R8) (b := b14) (e := 5) (y := 128) Pick.here rfl (fun _ => ⟨rfl, trivial⟩)) ?_
 refine RL.val (Wanted.free rfl) (V.fieldAddr rfl rfl fo111_2) rfl ?_
 refine RL.val (Wanted.free rfl) (V.load rfl on3 rfl pickX (dg_9 hH)) rfl ?_
 refine RL.val (Wanted.free rfl) (V.bin rfl rfl rfl (B.remI (by omega) (by omega))) rfl ?_
 refine RL.val (Wanted.free rfl) (V.bin rfl rfl rfl (B.subI (by omega) (by omega))) rfl ?_
 refine RL.val (Wanted.free rfl) (V.bin rfl rfl rfl (B.remI (by omega) (by omega))) rfl ?_
 refine RL.eff (Wanted.free rfl) (E.appendZ (k := (119 - len % 64) % 64) rfl rfl rfl el62 ze5 ui3 us9 rfl rfl (by omega) pickX (by omega) (by omega) (by omega) (by omega)) rfl ?_
 intro _ _ hK14
 try rw [List.nil_append] at hK14
 try rw [Nat.zero_add] at hK14
 obtain ⟨a20, c20, rfl, rfl⟩ := hK14
 refine RL.ent (Buf.eqc (l' := ([128] ++ List.replicate ((119 - len % 64) % 64) 0 ++ e8 (UInt64.ofNat len * 8) 0)) (by simp [e8])) ?_
 refine RL.val (Wanted.free rfl) (V.assign rfl rfl) rfl ?_
 refine RL.nil ?_
 refine SG.seq ?_
 refine SG.seq ?_
 refine SG.region ?_
 refine RL.val (Wanted.free rfl) (V.assign rfl rfl) rfl ?_
 refine RL.nil ?_
 refine SG.block ?_
 refine SG.weaken (SG.loop2 (fun m al M => ∃ (q : Nat) (a4 : Option Addr) (c4 : Nat), q ≤ 8 ∧ m = 8 - q ∧ al = [(1, ptr b1 0), (2, ptr b2 0), (3, v64 (UInt64.ofNat len * 8)), (4, .slice a4 (1 + (119 - len % 64) % 64 + q) c4), (5, vI (56 - 8 * (q : Int)))] ∧ M = Buf R8 5 a4 (1 + (119 - len % 64) % 64 + q) c4 ([128] ++ List.replicate ((119 - len % 64) % 64) 0 ++ e8 (UInt64.ofNat len * 8) q) :: Blk b1 111 (dg H (.slice a t.length c) (vI (len : Int))) :: Blk b2 25 (List.replicate 32 (.int .u8 0)) :: L) (m0 := _) ⟨0, a20, c20, by omega, rfl, rfl, rfl⟩ ?_) ?_ ?_
 rotate_left
 ·
  repeat (first | exact EnvLe.nil _ | refine EnvLe.cons rfl ?_)
 ·
  exact entX
 rintro _ _ _ ⟨q, a4, c4, hq, rfl, rfl, rfl⟩ ih0
 refine SG.seq ?_
 refine SG.seq ?_
 refine SG.region ?_
 refine RL.val (Wanted.free rfl) (V.move rfl rfl) rfl ?_
 refine RL.cmp (Wanted.free rfl) (V.bin rfl rfl rfl B.geq) rfl (fun h18 => ?_) (fun h18 => ?_)
 ·
  refine RL.nil ?_
  refine SG.cond_true rfl ?_
  refine SG.skip ?_
  refine SG.seq ?_
  refine SG.block ?_
  refine SG.region ?_
  refine RL.val (Wanted.free rfl) (V.move rfl rfl) rfl ?_
  refine RL.val (Wanted.free rfl) (V.move rfl rfl) rfl ?_
  refine RL.val (Wanted.free rfl) (V.move rfl rfl) rfl ?_
  refine RL.val (Wanted.free rfl) (V.bin rfl rfl rfl (B.shr64' (UInt64.ofNat (56 - 8 * q)) (by omega) (by omega) (by rw [UInt64.toNat_ofNat']; omega))) rfl ?_
  refine RL.val (Wanted.free rfl) (V.to8 rfl ⟨_, ui99⟩ ui5 rfl) rfl ?_
  rw [u64to8]
  refine RL.eff (Wanted.free rfl) (E.lit1 _ rfl el62.slice ze5 rfl (by decide) (by decide) rfl rfl rfl) rfl ?_
  rintro _ _ ⟨b24, rfl, rfl⟩
  refine RL.eff (Wanted.free rfl) (E.append (T := R8) rfl rfl rfl el62 el62.noInt rfl rfl pickX (Src.lit (x := ((UInt64.ofNat len * 8) >>> UInt64.ofNat (56 - 8 * q)).toUInt8) pickX (by first | trivial | assumption | omega)) (by first | omega | (simp; omega)) (by first | omega | (simp; omega))) rfl ?_
  intro _ _ hK25
  try rw [List.nil_append] at hK25
  try rw [Nat.zero_add] at hK25
  rw [List.append_assoc, ← e8_step _ (by omega)] at hK25
  obtain ⟨a31, c31, rfl, rfl⟩ := hK25
  refine RL.val (Wanted.free rfl) (V.assign rfl rfl) rfl ?_
  refine RL.nil ?_
  refine SG.inBlock ?_
  refine SG.region ?_
  refine RL.val (Wanted.free rfl) (V.move rfl rfl) rfl ?_
  refine RL.val (Wanted.free rfl) (V.bin rfl rfl rfl (B.subI (by omega) (by omega))) rfl ?_
  refine RL.val (Wanted.free rfl) (V.assign rfl rfl) rfl ?_
  refine RL.nil ?_
  refine SG.weaken (ih0 _ _ _ ?_ ⟨q + 1, a31, c31, by omega, rfl, rfl, rfl⟩) ?_ ?_
  ·
   omega
  ·
   rw [show (56 : Int) - 8 * ((q + 1 : Nat) : Int) = 56 - 8 * (q : Int) - 8 from by omega]
   repeat (first | exact EnvLe.nil _ | refine EnvLe.cons rfl ?_)
  ·
   exact entX
 ·
  refine RL.nil ?_
  refine SG.cond_false rfl ?_
  refine SG.exit rfl ?_
  refine SG.seq ?_
  obtain rfl : q = 8 := by omega
  refine SG.publish (T := R8) (a := a4) (l := ends len) pickX ?_
  have hends : (ends len).length = 1 + (119 - len % 64) % 64 + 8 := by simp [ends, len8]; omega
  refine SG.region ?_
  refine RL.eff (Wanted.free rfl) (E.alloc rfl ze25) rfl ?_
  rintro _ _ ⟨b6, rfl, rfl⟩
  refine RL.ent (Blk.eqc (oz_zero (out (feed H (t ++ ends len))))) ?_
  refine RL.nil ?_
  refine SG.seq ?_
  refine SG.seq ?_
  refine SG.region ?_
  refine RL.val (Wanted.free rfl) (V.loadAgg (us := dg H (.slice a t.length c) (vI (len : Int))) rfl ag111 rfl pickX (dg_all hH) (dg_len hH)) rfl ?_
  refine RL.val (Wanted.free rfl) (V.move rfl rfl) rfl ?_
  refine RL.eff (Wanted.free rfl) (E.call rfl go72 rfl (write_ok (a := a) (t := t) (b := ends len) hH memX memX (by unfold Tab; repeat (first | exact List.Mem.head _ | assumption | apply List.Mem.tail)) (by omega) (by omega) (by omega))) rfl ?_
  rintro _ _ ⟨a34, c34, rfl, rfl⟩
  refine RL.val (Wanted.free rfl) (V.fieldAgg rfl Tryd.underlying111 rfl ag109 rfl (dg_H (feed_length _ _ hH))) rfl ?_
  refine RL.val (Wanted.free rfl) (V.move rfl rfl) rfl ?_
  refine RL.nil ?_
  refine SG.block ?_
  refine SG.weaken (SG.loop2 (fun m al M => ∃ i : Nat, i ≤ 8 ∧ m = 8 - i ∧ al = [(2, ptr b2 0), (6, ptr b6 0), (35, .agg ((feed H (t ++ ends len)).map v32).toArray), (36, vI i)] ∧ M = Blk b6 25 ((oz (out (feed H (t ++ ends len))) (4 * i)).map v8) :: Blk b2 25 (List.replicate 32 (.int .u8 0)) :: L) (m0 := _) ⟨0, by omega, rfl, rfl, rfl⟩ ?_) ?_ ?_
  rotate_left
  ·
   repeat (first | exact EnvLe.nil _ | refine EnvLe.cons rfl ?_)
  ·
   exact entX
  rintro _ _ _ ⟨i, hi, rfl, rfl, rfl⟩ ih1
  refine SG.seq ?_
  refine SG.region ?_
  refine RL.cmp (Wanted.free rfl) (V.bin rfl rfl rfl B.lss) rfl (fun h36 => ?_) (fun h36 => ?_)
  ·
   refine RL.nil ?_
   refine SG.seq ?_
   refine SG.cond_true rfl ?_
   refine SG.skip ?_
   refine SG.seq ?_
   refine SG.block ?_
   refine SG.seq ?_
   refine SG.region ?_
   refine RL.val (Wanted.free rfl) (V.move rfl rfl) rfl ?_
   refine RL.val (Wanted.free rfl) (V.indexV (j := i) rfl ar109 on108 (feed_length _ _ hH) rfl rfl (by first | rfl | omega) (getD_some 0 (by rw [feed_length _ _ hH]; omega))) rfl ?_
   refine RL.val (Wanted.free rfl) (V.assign rfl rfl) rfl ?_
   refine RL.val (Wanted.free rfl) (V.assign rfl rfl) rfl ?_
   refine RL.nil ?_
   refine SG.seq ?_
   refine SG.region ?_
   refine RL.val (Wanted.free rfl) (V.move rfl rfl) rfl ?_
   refine RL.nil ?_
   refine SG.block ?_
   refine SG.weaken (SG.loop2 (fun m al M => ∃ k : Nat, k ≤ 4 ∧ m = 4 - k ∧ al = [(2, ptr b2 0), (6, ptr b6 0), (7, vI i), (8, v32 ((feed H (t ++ ends len)).getD i 0)), (35, .agg ((feed H (t ++ ends len)).map v32).toArray), (36, vI i), (40, vI k)] ∧ M = Blk b6 25 ((oz (out (feed H (t ++ ends len))) (4 * i + k)).map v8) :: Blk b2 25 (List.replicate 32 (.int .u8 0)) :: L) (m0 := _) ⟨0, by omega, rfl, rfl, rfl⟩ ?_) ?_ ?_
   rotate_left
   ·
    repeat (first | exact EnvLe.nil _ | refine EnvLe.cons rfl ?_)
   ·
    exact entX
   rintro _ _ _ ⟨k, hk, rfl, rfl, rfl⟩ ih2
   refine SG.seq ?_
   refine SG.region ?_
   refine RL.cmp (Wanted.free rfl) (V.bin rfl rfl rfl B.lss) rfl (fun h42 => ?_) (fun h42 => ?_)
   ·
    refine RL.nil ?_
    refine SG.seq ?_
    refine SG.cond_true rfl ?_
    refine SG.skip ?_
    refine SG.seq ?_
    refine SG.block ?_
    refine SG.seq ?_
    refine SG.region ?_
    refine RL.val (Wanted.free rfl) (V.move rfl rfl) rfl ?_
    refine RL.val (Wanted.free rfl) (V.assign rfl rfl) rfl ?_
    refine RL.nil ?_
    refine SG.region ?_
    refine RL.val (Wanted.free rfl) (V.move rfl rfl) rfl ?_
    refine RL.val (Wanted.free rfl) (V.bin rfl rfl rfl (B.mulI (by omega) (by omega))) rfl ?_
    refine RL.val (Wanted.free rfl) (V.move rfl rfl) rfl ?_
    refine RL.val (Wanted.free rfl) (V.bin rfl rfl rfl (B.addI (by omega) (by omega))) rfl ?_
    refine RL.val (Wanted.free rfl) (V.move rfl rfl) rfl ?_
    refine RL.val (Wanted.free rfl) (V.move rfl rfl) rfl ?_
    refine RL.val (Wanted.free rfl) (V.bin rfl rfl rfl (B.mulI (by omega) (by omega))) rfl ?_
    refine RL.val (Wanted.free rfl) (V.bin rfl rfl rfl (B.subI (by omega) (by omega))) rfl ?_
    refine RL.val (Wanted.free rfl) (V.bin rfl rfl rfl (B.shr32 (UInt32.ofNat (24 - 8 * k)) (by omega) (by omega) (by rw [UInt32.toNat_ofNat']; omega))) rfl ?_
    refine RL.val (Wanted.free rfl) (V.to8 rfl ⟨_, ui108⟩ ui5 rfl) rfl ?_
    rw [u32to8]
    refine RL.val (Wanted.free rfl) (V.indexW (j := 4 * i + k) rfl ar25 rfl rfl (by first | rfl | omega) (by omega)) rfl ?_
    refine RL.eff (Wanted.free rfl) (E.storeB rfl rfl rfl sz5 pickX (by rw [oz_length (out_length (feed_length _ _ hH)) (by omega)]; omega)) rfl ?_
    rintro _ _ rfl
    rw [oz_step (out_length (feed_length _ _ hH)) (by omega) (out_get2 (feed_length _ _ hH) (by omega) (by omega))]
    refine RL.nil ?_
    refine SG.inBlock ?_
    refine SG.region ?_
    refine RL.val (Wanted.free rfl) (V.bin rfl rfl rfl (B.addI (by omega) (by omega))) rfl ?_
    refine RL.val (Wanted.free rfl) (V.move rfl rfl) rfl ?_
    refine RL.nil ?_
    refine SG.weaken (ih2 _ _ _ ?_ ⟨k + 1, by omega, rfl, rfl, rfl⟩) ?_ ?_
    ·
     omega
    ·
     repeat (first | exact EnvLe.nil _ | refine EnvLe.cons rfl ?_)
    ·
     exact entX
   ·
    refine RL.nil ?_
    refine SG.seq ?_
    refine SG.cond_false rfl ?_
    refine SG.exit rfl ?_
    refine SG.inBlock ?_
    refine SG.region ?_
    refine RL.val (Wanted.free rfl) (V.bin rfl rfl rfl (B.addI (by omega) (by omega))) rfl ?_
    refine RL.val (Wanted.free rfl) (V.move rfl rfl) rfl ?_
    refine RL.nil ?_
    obtain rfl : k = 4 := by omega
    refine SG.weaken (ih1 _ _ _ ?_ ⟨i + 1, by omega, rfl, rfl, rfl⟩) ?_ ?_
    ·
     omega
    ·
     repeat (first | exact EnvLe.nil _ | refine EnvLe.cons rfl ?_)
    ·
     exact entX
  ·
   refine RL.nil ?_
   refine SG.seq ?_
   refine SG.cond_false rfl ?_
   refine SG.exit rfl ?_
   refine SG.seq ?_
   obtain rfl : i = 8 := by omega
   rw [show oz (out (feed H (t ++ ends len))) (4 * 8) = (out (feed H (t ++ ends len))) from oz_all (out_length (feed_length _ _ hH))]
   refine SG.region ?_
   refine RL.val (Wanted.free rfl) (V.loadAgg (us := (out (feed H (t ++ ends len))).map v8) rfl ag25 rfl pickX (take8 (out_length (feed_length _ _ hH))) (by rw [List.length_map]; exact (out_length (feed_length _ _ hH)))) rfl ?_
   refine RL.eff (Wanted.free rfl) (E.storeWhole rfl rfl rfl (by rw [List.length_map]; exact (out_length (feed_length _ _ hH))) sz25 pickX (one8 _) (by rw [List.length_replicate])) rfl ?_
   rintro _ _ rfl
   refine RL.nil ?_
   refine SG.retE (Ret.r1 Tryd.func71 rfl (.agg rfl ag25 pickX (take8 (out_length (feed_length _ _ hH))) (by rw [List.length_map]; exact (out_length (feed_length _ _ hH))))) ?_ ⟨rfl, rfl⟩
   exact entX

end Go.Proofs.YtcbloadpffjkiaaDoor
