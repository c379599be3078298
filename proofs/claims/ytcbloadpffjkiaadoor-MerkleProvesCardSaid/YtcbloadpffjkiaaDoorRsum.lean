/- The reference's Sum. -/
import Derived.Test.YtcbloadpffjkiaaDoorRblock
import Derived.Test.YtcbloadpffjkiaaDoorSha2
namespace Go.Proofs.YtcbloadpffjkiaaDoor
open Go.Wk Go.Sha

set_option maxRecDepth 100000 in
set_option maxHeartbeats 1000000 in
theorem rsum_ok {κ : World} {L : List Assn} {a : Option Addr} {n c : Nat} {l : List UInt8} (hm : Sl R8 a n c l ∈ L) (hb : l.length ≤ 140737488355264) :
    Ctr Tryd.prog 48 #[.slice a n c] κ L (fun v M => v = .agg ((sum l).map v8).toArray ∧ M = L) := by
 refine Ctr.enter (vs := [.slice a n c]) (m := 56) Tryd.func48 rfl rfl rfl ?_
 refine SG.sl hm fun hn hc hc63 => ?_
 subst hn
 refine SG.seq ?_
 refine SG.region ?_
 refine RL.eff (Wanted.free rfl) (E.alloc rfl ze25) rfl ?_
 rintro _ _ ⟨b2, rfl, rfl⟩
 refine RL.nil ?_
 refine SG.seq ?_
 refine SG.region ?_
 refine RL.ent (Buf.nil (T := R8) (e := 5)) ?_
 refine RL.val (Wanted.free rfl) (V.assign rfl rfl) rfl ?_
 refine RL.nil ?_
 refine SG.seq ?_
 refine SG.region ?_
 refine RL.val (Wanted.free rfl) (V.move rfl rfl) rfl ?_
 refine RL.val (Wanted.free rfl) (V.move rfl rfl) rfl ?_
 refine RL.eff (Wanted.free rfl) (E.append (T := R8) rfl rfl rfl el62 el62.noInt rfl rfl pickX (Src.sl (by decide) memX) (by first | omega | (simp; omega)) (by first | omega | (simp; omega))) rfl ?_
 intro _ _ hK5
 try rw [List.nil_append] at hK5
 try rw [Nat.zero_add] at hK5
 obtain ⟨a11, c11, rfl, rfl⟩ := hK5
 refine RL.val (Wanted.free rfl) (V.assign rfl rfl) rfl ?_
 refine RL.nil ?_
 refine SG.seq ?_
 refine SG.region ?_
 refine RL.val (Wanted.free rfl) (V.move rfl rfl) rfl ?_
 refine RL.eff (Wanted.free rfl) (E.lit1 _ rfl el62.slice ze5 rfl (by decide) (by decide) rfl rfl rfl) rfl ?_
 rintro _ _ ⟨b8, rfl, rfl⟩
 refine RL.eff (Wanted.free rfl) (E.append (T := R8) rfl rfl rfl el62 el62.noInt rfl rfl pickX (Src.lit (x := 128) pickX (by first | trivial | assumption | omega)) (by first | omega | (simp; omega)) (by first | omega | (simp; omega))) rfl ?_
 intro _ _ hK9
 try rw [List.nil_append] at hK9
 try rw [Nat.zero_add] at hK9
 obtain ⟨a14, c14, rfl, rfl⟩ := hK9
 refine RL.val (Wanted.free rfl) (V.assign rfl rfl) rfl ?_
 refine RL.nil ?_
 refine SG.seq ?_
 refine SG.block ?_
 refine SG.ent (Buf.eqc (l' := l ++ [128] ++ List.replicate 0 0) (by simp)) ?_
 refine SG.weaken (SG.loop2 (fun m al M => ∃ (z : Nat) (a3 : Option Addr) (c3 : Nat), z ≤ (119 - l.length % 64) % 64 ∧ m = 64 - z ∧ al = [(0, .slice a l.length c), (2, ptr b2 0), (3, .slice a3 (l.length + 1 + z) c3)] ∧ M = Buf R8 5 a3 (l.length + 1 + z) c3 (l ++ [128] ++ List.replicate (z) 0) :: Blk b2 25 (List.replicate 32 (.int .u8 0)) :: L) (m0 := _) ⟨0, a14, c14, by omega, rfl, rfl, rfl⟩ ?_) ?_ ?_
 rotate_left
 ·
  repeat (first | exact EnvLe.nil _ | refine EnvLe.cons rfl ?_)
 ·
  exact entX
 rintro _ _ _ ⟨z, a3, c3, hz, rfl, rfl, rfl⟩ ih0
 refine SG.seq ?_
 refine SG.seq ?_
 refine SG.region ?_
 refine RL.val (Wanted.free rfl) (V.move rfl rfl) rfl ?_
 refine RL.val (Wanted.free rfl) (V.len rfl rfl el62.under rfl) rfl ?_
 refine RL.val (Wanted.free rfl) (V.bin rfl rfl rfl (B.remI (by omega) (by omega))) rfl ?_
 refine RL.cmp (Wanted.free rfl) (V.bin rfl rfl rfl B.neq) rfl (fun h14 => ?_) (fun h14 => ?_)
 ·
  refine RL.nil ?_
  refine SG.cond_true rfl ?_
  refine SG.skip ?_
  refine SG.block ?_
  refine SG.region ?_
  refine RL.val (Wanted.free rfl) (V.move rfl rfl) rfl ?_
  refine RL.eff (Wanted.free rfl) (E.lit1 _ rfl el62.slice ze5 rfl (by decide) (by decide) rfl rfl rfl) rfl ?_
  rintro _ _ ⟨b16, rfl, rfl⟩
  refine RL.eff (Wanted.free rfl) (E.append (T := R8) rfl rfl rfl el62 el62.noInt rfl rfl pickX (Src.lit (x := 0) pickX (by first | trivial | assumption | omega)) (by first | omega | (simp; omega)) (by first | omega | (simp; omega))) rfl ?_
  intro _ _ hK17
  try rw [List.nil_append] at hK17
  try rw [Nat.zero_add] at hK17
  rw [List.append_assoc, ← List.replicate_succ'] at hK17
  obtain ⟨a21, c21, rfl, rfl⟩ := hK17
  refine RL.val (Wanted.free rfl) (V.assign rfl rfl) rfl ?_
  refine RL.nil ?_
  refine SG.inBlock ?_
  refine SG.weaken (ih0 _ _ _ ?_ ⟨z + 1, a21, c21, by omega, rfl, rfl, rfl⟩) ?_ ?_
  ·
   omega
  ·
   repeat (first | exact EnvLe.nil _ | refine EnvLe.cons rfl ?_)
  ·
   exact entX
 ·
  refine RL.nil ?_
  refine SG.cond_false rfl ?_
  refine SG.exit rfl ?_
  refine SG.seq ?_
  obtain rfl : z = (119 - l.length % 64) % 64 := by omega
  refine SG.region ?_
  refine RL.val (Wanted.free rfl) (V.move rfl rfl) rfl ?_
  refine RL.val (Wanted.free rfl) (V.len rfl rfl el62.under rfl) rfl ?_
  refine RL.val (Wanted.free rfl) (V.to64 rfl ⟨_, ui3⟩ ui99 rfl) rfl ?_
  rw [show UInt64.ofNat ((l.length : Int) % 18446744073709551616).toNat = UInt64.ofNat l.length from by congr 1; omega]
  refine RL.val (Wanted.free rfl) (V.bin rfl rfl rfl (B.mul64 (y := 8))) rfl ?_
  refine RL.val (Wanted.free rfl) (V.assign rfl rfl) rfl ?_
  refine RL.nil ?_
  refine SG.seq ?_
  refine SG.seq ?_
  refine SG.region ?_
  refine RL.val (Wanted.free rfl) (V.assign rfl rfl) rfl ?_
  refine RL.nil ?_
  refine SG.block ?_
  refine SG.ent (Ent.trans pickX (Buf.eqc (a := a3) (l' := (l ++ [128] ++ List.replicate ((119 - l.length % 64) % 64) 0) ++ e8 (UInt64.ofNat l.length * 8) 0) (by simp [e8]))) ?_
  refine SG.weaken (SG.loop2 (fun m al M => ∃ (q : Nat) (a3 : Option Addr) (c3 : Nat), q ≤ 8 ∧ m = 8 - q ∧ al = [(2, ptr b2 0), (3, .slice a3 (l.length + 1 + (119 - l.length % 64) % 64 + q) c3), (4, v64 (UInt64.ofNat l.length * 8)), (5, vI (56 - 8 * (q : Int)))] ∧ M = Buf R8 5 a3 (l.length + 1 + (119 - l.length % 64) % 64 + q) c3 ((l ++ [128] ++ List.replicate ((119 - l.length % 64) % 64) 0) ++ e8 (UInt64.ofNat l.length * 8) q) :: Blk b2 25 (List.replicate 32 (.int .u8 0)) :: L) (m0 := _) ⟨0, a3, c3, by omega, rfl, rfl, rfl⟩ ?_) ?_ ?_
  rotate_left
  ·
   repeat (first | exact EnvLe.nil _ | refine EnvLe.cons rfl ?_)
  ·
   exact entX
  rintro _ _ _ ⟨q, a3, c3, hq, rfl, rfl, rfl⟩ ih1
  refine SG.seq ?_
  refine SG.seq ?_
  refine SG.region ?_
  refine RL.val (Wanted.free rfl) (V.move rfl rfl) rfl ?_
  refine RL.cmp (Wanted.free rfl) (V.bin rfl rfl rfl B.geq) rfl (fun h26 => ?_) (fun h26 => ?_)
  ·
   refine RL.nil ?_
   refine SG.cond_true rfl ?_
   refine SG.skip ?_
   refine SG.seq ?_
   refine SG.block ?_
   refine SG.region ?_
   refine RL.val (Wanted.free rfl) (V.move rfl rfl) rfl ?_
   refine RL.val (Wanted.free rfl) (V.move rfl rfl) rfl ?_
   refine RL.val (Wanted.free rfl) (V.move rfl rfl) rfl ?_
   refine RL.val (Wanted.free rfl) (V.bin rfl rfl rfl (B.shr64' (UInt64.ofNat (56 - 8 * q)) (by omega) (by omega) (by rw [UInt64.toNat_ofNat']; omega))) rfl ?_
   refine RL.val (Wanted.free rfl) (V.to8 rfl ⟨_, ui99⟩ ui5 rfl) rfl ?_
   rw [u64to8]
   refine RL.eff (Wanted.free rfl) (E.lit1 _ rfl el62.slice ze5 rfl (by decide) (by decide) rfl rfl rfl) rfl ?_
   rintro _ _ ⟨b32, rfl, rfl⟩
   refine RL.eff (Wanted.free rfl) (E.append (T := R8) rfl rfl rfl el62 el62.noInt rfl rfl pickX (Src.lit (x := ((UInt64.ofNat l.length * 8) >>> UInt64.ofNat (56 - 8 * q)).toUInt8) pickX (by first | trivial | assumption | omega)) (by first | omega | (simp; omega)) (by first | omega | (simp; omega))) rfl ?_
   intro _ _ hK33
   try rw [List.nil_append] at hK33
   try rw [Nat.zero_add] at hK33
   rw [List.append_assoc, ← e8_step _ (by omega)] at hK33
   obtain ⟨a36, c36, rfl, rfl⟩ := hK33
   refine RL.val (Wanted.free rfl) (V.assign rfl rfl) rfl ?_
   refine RL.nil ?_
   refine SG.inBlock ?_
   refine SG.region ?_
   refine RL.val (Wanted.free rfl) (V.move rfl rfl) rfl ?_
   refine RL.val (Wanted.free rfl) (V.bin rfl rfl rfl (B.subI (by omega) (by omega))) rfl ?_
   refine RL.val (Wanted.free rfl) (V.assign rfl rfl) rfl ?_
   refine RL.nil ?_
   refine SG.weaken (ih1 _ _ _ ?_ ⟨q + 1, a36, c36, by omega, rfl, rfl, rfl⟩) ?_ ?_
   ·
    omega
   ·
    rw [show (56 : Int) - 8 * ((q + 1 : Nat) : Int) = 56 - 8 * (q : Int) - 8 from by omega]
    repeat (first | exact EnvLe.nil _ | refine EnvLe.cons rfl ?_)
   ·
    exact entX
  ·
   refine RL.nil ?_
   refine SG.cond_false rfl ?_
   refine SG.exit rfl ?_
   refine SG.seq ?_
   obtain rfl : q = 8 := by omega
   refine SG.ent (Buf.eqc (a := a3) (l := (l ++ [128] ++ List.replicate ((119 - l.length % 64) % 64) 0) ++ e8 (UInt64.ofNat l.length * 8) 8) (l' := l ++ ends l.length) (by rw [e8_all]; simp [ends]) |> fun h => Ent.trans pickX h) ?_
   refine SG.publish (T := R8) (a := a3) Pick.here ?_
   have hends : (ends l.length).length = 1 + (119 - l.length % 64) % 64 + 8 := by simp [ends, len8]; omega
   refine SG.region ?_
   refine RL.val (Wanted.free rfl) (V.move rfl rfl) rfl ?_
   refine RL.eff (Wanted.free rfl) (E.call rfl go80 rfl (blocks_ok (l := l ++ ends l.length) memX (by rw [List.length_append]; omega))) rfl ?_
   rintro _ _ ⟨rfl, rfl⟩
   refine RL.eff (Wanted.free rfl) (E.alloc rfl ze109) rfl ?_
   rintro _ _ ⟨b6, rfl, rfl⟩
   refine RL.eff (Wanted.free rfl) (E.storeWhole rfl rfl rfl (by rw [List.length_map]; exact (feed_length _ _ first_length)) sz109 pickX (one32 _) (by rfl)) rfl ?_
   rintro _ _ rfl
   refine RL.nil ?_
   refine SG.seq ?_
   refine SG.region ?_
   refine RL.eff (Wanted.free rfl) (E.alloc rfl ze25) rfl ?_
   rintro _ _ ⟨b7, rfl, rfl⟩
   refine RL.ent (Blk.eqc (oz_zero (sum l))) ?_
   refine RL.nil ?_
   refine SG.seq ?_
   refine SG.seq ?_
   refine SG.region ?_
   refine RL.val (Wanted.free rfl) (V.assign rfl rfl) rfl ?_
   refine RL.nil ?_
   refine SG.block ?_
   refine SG.weaken (SG.loop2 (fun m al M => ∃ j : Nat, j ≤ 32 ∧ m = 32 - j ∧ al = [(2, ptr b2 0), (6, ptr b6 0), (7, ptr b7 0), (8, vI j)] ∧ M = Blk b7 25 ((oz (sum l) j).map v8) :: Blk b6 109 ((feed first (l ++ ends l.length)).map v32) :: Blk b2 25 (List.replicate 32 (.int .u8 0)) :: L) (m0 := _) ⟨0, by omega, rfl, rfl, rfl⟩ ?_) ?_ ?_
   rotate_left
   ·
    repeat (first | exact EnvLe.nil _ | refine EnvLe.cons rfl ?_)
   ·
    exact entX
   rintro _ _ _ ⟨j, hj, rfl, rfl, rfl⟩ ih2
   refine SG.seq ?_
   refine SG.seq ?_
   refine SG.region ?_
   refine RL.val (Wanted.free rfl) (V.move rfl rfl) rfl ?_
   refine RL.cmp (Wanted.free rfl) (V.bin rfl rfl rfl B.lss) rfl (fun h45 => ?_) (fun h45 => ?_)
   ·
    refine RL.nil ?_
    refine SG.cond_true rfl ?_
    refine SG.skip ?_
    refine SG.seq ?_
    refine SG.block ?_
    refine SG.region ?_
    refine RL.val (Wanted.free rfl) (V.move rfl rfl) rfl ?_
    refine RL.val (Wanted.free rfl) (V.move rfl rfl) rfl ?_
    refine RL.val (Wanted.free rfl) (V.bin rfl rfl rfl (B.quoI (by omega) (by omega) (by omega))) rfl ?_
    refine RL.val (Wanted.free rfl) (V.indexW (j := j / 4) rfl ar109 rfl rfl (by first | rfl | omega) (by omega)) rfl ?_
    refine RL.val (Wanted.free rfl) (V.loadW rfl on108 rfl pickX (getD_some 0 (by rw [feed_length _ _ first_length]; omega))) rfl ?_
    refine RL.val (Wanted.free rfl) (V.move rfl rfl) rfl ?_
    refine RL.val (Wanted.free rfl) (V.bin rfl rfl rfl (B.remI (by omega) (by omega))) rfl ?_
    refine RL.val (Wanted.free rfl) (V.bin rfl rfl rfl (B.mulI (by omega) (by omega))) rfl ?_
    refine RL.val (Wanted.free rfl) (V.bin rfl rfl rfl (B.subI (by omega) (by omega))) rfl ?_
    refine RL.val (Wanted.free rfl) (V.bin rfl rfl rfl (B.shr32 (UInt32.ofNat (24 - j % 4 * 8)) (by omega) (by omega) (by rw [UInt32.toNat_ofNat']; omega))) rfl ?_
    refine RL.val (Wanted.free rfl) (V.to8 rfl ⟨_, ui108⟩ ui5 rfl) rfl ?_
    rw [u32to8]
    refine RL.val (Wanted.free rfl) (V.indexW (j := j) rfl ar25 rfl rfl (by first | rfl | omega) (by omega)) rfl ?_
    refine RL.eff (Wanted.free rfl) (E.storeB rfl rfl rfl sz5 pickX (by rw [oz_length (sum_length _) (by omega)]; omega)) rfl ?_
    rintro _ _ rfl
    rw [oz_step (sum_length _) (by omega) (out_get (feed_length _ _ first_length) (by omega))]
    refine RL.nil ?_
    refine SG.inBlock ?_
    refine SG.region ?_
    refine RL.val (Wanted.free rfl) (V.move rfl rfl) rfl ?_
    refine RL.val (Wanted.free rfl) (V.bin rfl rfl rfl (B.addI (by omega) (by omega))) rfl ?_
    refine RL.val (Wanted.free rfl) (V.assign rfl rfl) rfl ?_
    refine RL.nil ?_
    refine SG.weaken (ih2 _ _ _ ?_ ⟨j + 1, by omega, rfl, rfl, rfl⟩) ?_ ?_
    ·
     omega
    ·
     repeat (first | exact EnvLe.nil _ | refine EnvLe.cons rfl ?_)
    ·
     exact entX
   ·
    refine RL.nil ?_
    refine SG.cond_false rfl ?_
    refine SG.exit rfl ?_
    refine SG.seq ?_
    obtain rfl : j = 32 := by omega
    rw [oz_all (sum_length _)]
    refine SG.region ?_
    refine RL.val (Wanted.free rfl) (V.loadAgg (us := (sum l).map v8) rfl ag25 rfl pickX (take8 (sum_length _)) (by rw [List.length_map]; exact sum_length _)) rfl ?_
    refine RL.eff (Wanted.free rfl) (E.storeWhole rfl rfl rfl (by rw [List.length_map]; exact sum_length _) sz25 pickX (one8 _) (by rw [List.length_replicate])) rfl ?_
    rintro _ _ rfl
    refine RL.nil ?_
    refine SG.retE (Ret.r1 Tryd.func48 rfl (.agg rfl ag25 pickX (take8 (sum_length _)) (by rw [List.length_map]; exact sum_length _))) ?_ ⟨rfl, rfl⟩
    exact entX

end Go.Proofs.YtcbloadpffjkiaaDoor
