/- The reference's Includes. -/
import Derived.Test.YtcbloadpffjkiaaDoorMlives
import Derived.Test.YtcbloadpffjkiaaDoorMClimb
namespace Go.Proofs.YtcbloadpffjkiaaDoor
open Go.Wk Go.Mk Go.Sha

def rclimbAt (κ : World) (leaf : Hs) (n : Nat) : Prop := ∀ (i : Nat) (p : List Hs) (L : List Assn) (a : Option Addr) (m c : Nat), i < n → n ≤ 65536 → Sl (RArr8 32) a m c p ∈ L → Ctr Tryd.prog 60 #[vI (n : Int), vI (i : Int), .agg ((leaf).map v8).toArray, .slice a m c] κ L (fun v M => v = .tuple #[.agg (((rclimbV leaf n i p).1).map v8).toArray, vB (rclimbV leaf n i p).2] ∧ M = L)
set_option maxRecDepth 100000 in
set_option maxHeartbeats 1000000 in
theorem rclimb_step {κ : World} {L : List Assn} {a : Option Addr} {m c : Nat} {p : List Hs} {leaf : Hs} {n i : Nat} (hi : i < n) (hn : n ≤ 65536) (hlf : leaf.length = 32) (hm : Sl (RArr8 32) a m c p ∈ L) (ih : ∀ k, k < n → rclimbAt κ leaf k) :
    Ctr Tryd.prog 60 #[vI (n : Int), vI (i : Int), .agg ((leaf).map v8).toArray, .slice a m c] κ L (fun v M => v = .tuple #[.agg (((rclimbV leaf n i p).1).map v8).toArray, vB (rclimbV leaf n i p).2] ∧ M = L) := by
 refine Ctr.enter (vs := [vI (n : Int), vI (i : Int), .agg ((leaf).map v8).toArray, .slice a m c]) (m := 71) Tryd.func60 rfl rfl rfl ?_
 refine SG.fact (fun w hs => Sep.slArr (a := a) (l := p) hs memX) fun h32 => ?_
 refine SG.sl (T := RArr8 32) (a := a) (l := p) memX fun hmp hc hc63 => ?_
 subst hmp
 refine SG.seq ?_
 refine SG.region ?_
 refine RL.eff (Wanted.free rfl) (E.box (leaf.map v8) rfl rfl rfl) rfl ?_
 rintro _ _ ⟨b6, rfl, rfl⟩
 refine RL.eff (Wanted.free rfl) (E.alloc rfl ze25) rfl ?_
 rintro _ _ ⟨b8, rfl, rfl⟩
 refine RL.val (Wanted.free rfl) (V.assign rfl rfl) rfl ?_
 refine RL.nil ?_
 refine SG.seq ?_
 refine SG.seq ?_
 refine SG.region ?_
 refine RL.val (Wanted.free rfl) (V.move rfl rfl) rfl ?_
 refine RL.cmp (Wanted.free rfl) (V.bin rfl rfl rfl B.eql) rfl (fun h5 => ?_) (fun h5 => ?_)
 ·
  refine RL.nil ?_
  refine SG.cond_true rfl ?_
  refine SG.seq ?_
  refine SG.region ?_
  refine RL.val (Wanted.free rfl) (V.loadAgg (us := leaf.map v8) rfl ag25 rfl pickX (take8 hlf) (by rw [List.length_map]; exact hlf)) rfl ?_
  refine RL.val (Wanted.free rfl) (V.move rfl rfl) rfl ?_
  refine RL.val (Wanted.free rfl) (V.len rfl rfl el22.under rfl) rfl ?_
  refine RL.cmp (Wanted.free rfl) (V.bin rfl rfl rfl B.eql) rfl (fun h9 => ?_) (fun h9 => ?_)
  ·
   have hd : p.length = 0 := by omega
   refine RL.eff (Wanted.free rfl) (E.storeWhole rfl rfl rfl (by rw [List.length_map]; exact hlf) sz25 pickX (one8 _) (by first | rfl | (rw [List.length_replicate]))) rfl ?_
   rintro _ _ rfl
   refine RL.val (Wanted.free rfl) (V.assign rfl rfl) rfl ?_
   refine RL.nil ?_
   refine SG.retE (Ret.r2 Tryd.func60 rfl (.agg rfl ag25 pickX (take8 hlf) (by rw [List.length_map]; exact hlf)) (.tmp rfl)) ?_ ⟨by rw [rclimb_one (by omega)]; simp [hd], rfl⟩
   exact entX
  ·
   have hd : ¬ p.length = 0 := by omega
   refine RL.eff (Wanted.free rfl) (E.storeWhole rfl rfl rfl (by rw [List.length_map]; exact hlf) sz25 pickX (one8 _) (by first | rfl | (rw [List.length_replicate]))) rfl ?_
   rintro _ _ rfl
   refine RL.val (Wanted.free rfl) (V.assign rfl rfl) rfl ?_
   refine RL.nil ?_
   refine SG.retE (Ret.r2 Tryd.func60 rfl (.agg rfl ag25 pickX (take8 hlf) (by rw [List.length_map]; exact hlf)) (.tmp rfl)) ?_ ⟨by rw [rclimb_one (by omega)]; simp [hd], rfl⟩
   exact entX
 ·
  refine RL.nil ?_
  refine SG.cond_false rfl ?_
  refine SG.skip ?_
  refine SG.seq ?_
  refine SG.seq ?_
  refine SG.region ?_
  refine RL.val (Wanted.free rfl) (V.move rfl rfl) rfl ?_
  refine RL.val (Wanted.free rfl) (V.len rfl rfl el22.under rfl) rfl ?_
  refine RL.cmp (Wanted.free rfl) (V.bin rfl rfl rfl B.eql) rfl (fun h16 => ?_) (fun h16 => ?_)
  ·
   refine RL.nil ?_
   refine SG.cond_true rfl ?_
   refine SG.seq ?_
   have h2 : ¬ n < 2 := by omega
   have h0 : p.length = 0 := by omega
   refine SG.region ?_
   refine RL.val (Wanted.free rfl) (V.buildA [] rfl ba25 (by exact trivial) rfl) rfl ?_
   rw [show (List.replicate 32 (Value.int IntKind.u8 0)) = zero32.map v8 from rfl]
   refine RL.eff (Wanted.free rfl) (E.storeWhole rfl rfl rfl (by rw [List.length_map]; exact zero32_len) sz25 pickX (one8 _) (by first | rfl | (rw [List.length_replicate]))) rfl ?_
   rintro _ _ rfl
   refine RL.val (Wanted.free rfl) (V.assign rfl rfl) rfl ?_
   refine RL.nil ?_
   refine SG.retE (Ret.r2 Tryd.func60 rfl (.agg rfl ag25 pickX (take8 zero32_len) (by rw [List.length_map]; exact zero32_len)) (.tmp rfl)) ?_ ⟨by rw [rclimb_nil h2 h0], rfl⟩
   exact entX
  ·
   refine RL.nil ?_
   refine SG.cond_false rfl ?_
   refine SG.skip ?_
   refine SG.seq ?_
   have h2 : ¬ n < 2 := by omega
   have h0 : ¬ p.length = 0 := by omega
   obtain ⟨k, hk⟩ : ∃ k, spl n = k := ⟨_, rfl⟩
   have hk1 := spl_lt (n := n) (by omega)
   have hk2 := spl_pos n
   rw [hk] at hk1 hk2
   obtain ⟨x, hx⟩ : ∃ x, p[p.length - 1]? = some x := ⟨_, List.getElem?_eq_getElem (by omega)⟩
   have hxl := h32 x (List.mem_of_getElem? hx)
   have hgx : p.getD (p.length - 1) [] = x := by rw [List.getD_eq_getElem?_getD, hx]; rfl
   refine SG.region ?_
   refine RL.val (Wanted.free rfl) (V.move rfl rfl) rfl ?_
   refine RL.eff (Wanted.free rfl) (E.call rfl go49 rfl (rsplit_ok (n := n) (by omega) (by omega))) rfl ?_
   rintro _ _ ⟨rfl, hM⟩
   rw [hM, hk]
   refine RL.val (Wanted.free rfl) (V.assign rfl rfl) rfl ?_
   refine RL.nil ?_
   refine SG.seq ?_
   refine SG.region ?_
   refine RL.val (Wanted.free rfl) (V.move rfl rfl) rfl ?_
   refine RL.val (Wanted.free rfl) (V.move rfl rfl) rfl ?_
   refine RL.val (Wanted.free rfl) (V.len rfl rfl el22.under rfl) rfl ?_
   refine RL.val (Wanted.free rfl) (V.bin rfl rfl rfl (B.subI (by omega) (by omega))) rfl ?_
   refine RL.val (Wanted.free rfl) (V.indexSl (j := (p.length - 1)) rfl el22.slice rfl rfl memX (by first | rfl | omega) (by omega)) rfl ?_
   refine RL.val (Wanted.free rfl) (V.loadSlDt rfl ag25 rfl memX hx) rfl ?_
   refine RL.eff (Wanted.free rfl) (E.alloc rfl ze25) rfl ?_
   rintro _ _ ⟨b11, rfl, rfl⟩
   refine RL.eff (Wanted.free rfl) (E.storeWhole rfl rfl rfl (by rw [List.length_map]; exact hxl) sz25 pickX (one8 _) (by first | rfl | (rw [List.length_replicate]))) rfl ?_
   rintro _ _ rfl
   refine RL.nil ?_
   refine SG.seq ?_
   refine SG.region ?_
   refine RL.val (Wanted.free rfl) (V.move rfl rfl) rfl ?_
   refine RL.val (Wanted.free rfl) (V.move rfl rfl) rfl ?_
   refine RL.val (Wanted.free rfl) (V.len rfl rfl el22.under rfl) rfl ?_
   refine RL.val (Wanted.free rfl) (V.bin rfl rfl rfl (B.subI (by omega) (by omega))) rfl ?_
   refine RL.eff (Wanted.free rfl) (E.slice (lo := 0) (hi := (p.length - 1)) rfl el22.slice rfl memX rfl ⟨_, _, rfl, (by first | rfl | omega)⟩ (by omega) (by omega)) rfl ?_
   intro _ _ hK35
   try rw [List.drop_zero] at hK35
   iterate 2 (try rw [Nat.sub_zero] at hK35)
   obtain ⟨a35, rfl, rfl⟩ := hK35
   refine RL.val (Wanted.free rfl) (V.assign rfl rfl) rfl ?_
   refine RL.nil ?_
   refine SG.seq ?_
   refine SG.seq ?_
   refine SG.region ?_
   refine RL.val (Wanted.free rfl) (V.move rfl rfl) rfl ?_
   refine RL.val (Wanted.free rfl) (V.move rfl rfl) rfl ?_
   refine RL.cmp (Wanted.free rfl) (V.bin rfl rfl rfl B.lss) rfl (fun h39 => ?_) (fun h39 => ?_)
   ·
    refine RL.nil ?_
    refine SG.cond_true rfl ?_
    refine SG.seq ?_
    refine SG.region ?_
    refine RL.val (Wanted.free rfl) (V.move rfl rfl) rfl ?_
    refine RL.val (Wanted.free rfl) (V.move rfl rfl) rfl ?_
    refine RL.val (Wanted.free rfl) (V.loadAgg (us := leaf.map v8) rfl ag25 rfl pickX (take8 hlf) (by rw [List.length_map]; exact hlf)) rfl ?_
    refine RL.val (Wanted.free rfl) (V.move rfl rfl) rfl ?_
    refine RL.eff (Wanted.free rfl) (E.call rfl go60 rfl (ih k (by omega) i (p.take (p.length - 1)) _ _ _ _ (by omega) (by omega) memX)) rfl ?_
    rintro _ _ ⟨rfl, rfl⟩
    refine RL.val (Wanted.free rfl) (V.move rfl rfl) rfl ?_
    refine RL.val (Wanted.free rfl) (V.extract rfl rfl rfl) rfl ?_
    refine RL.val (Wanted.free rfl) (V.extract rfl rfl rfl) rfl ?_
    refine RL.eff (Wanted.free rfl) (E.alloc rfl ze25) rfl ?_
    rintro _ _ ⟨b13, rfl, rfl⟩
    refine RL.eff (Wanted.free rfl) (E.storeWhole rfl rfl rfl (by rw [List.length_map]; exact (rclimb_len hlf)) sz25 pickX (one8 _) (by first | rfl | (rw [List.length_replicate]))) rfl ?_
    rintro _ _ rfl
    refine RL.val (Wanted.free rfl) (V.assign rfl rfl) rfl ?_
    refine RL.nil ?_
    refine SG.seq ?_
    refine SG.region ?_
    refine RL.val (Wanted.free rfl) (V.loadAgg rfl ag25 rfl pickX (take8 (rclimb_len hlf)) (by rw [List.length_map]; exact (rclimb_len hlf))) rfl ?_
    refine RL.val (Wanted.free rfl) (V.loadAgg (us := x.map v8) rfl ag25 rfl pickX (take8 hxl) (by rw [List.length_map]; exact hxl)) rfl ?_
    refine RL.eff (Wanted.free rfl) (E.call rfl go50 rfl (rnode_ok (rclimb_len hlf) hxl)) rfl ?_
    rintro _ _ ⟨rfl, rfl⟩
    refine RL.val (Wanted.free rfl) (V.move rfl rfl) rfl ?_
    refine RL.eff (Wanted.free rfl) (E.storeWhole rfl rfl rfl (by rw [List.length_map]; exact (node_length _ _)) sz25 pickX (one8 _) (by first | rfl | (rw [List.length_replicate]))) rfl ?_
    rintro _ _ rfl
    refine RL.val (Wanted.free rfl) (V.assign rfl rfl) rfl ?_
    refine RL.nil ?_
    refine SG.retE (Ret.r2 Tryd.func60 rfl (.agg rfl ag25 pickX (take8 (node_length _ _)) (by rw [List.length_map]; exact node_length _ _)) (.tmp rfl)) ?_ ⟨by rw [rclimb_lo h2 h0 (by rw [hk]; omega), hk, hgx]; rfl, rfl⟩
    exact entX
   ·
    refine RL.nil ?_
    refine SG.cond_false rfl ?_
    refine SG.skip ?_
    refine SG.seq ?_
    refine SG.region ?_
    refine RL.val (Wanted.free rfl) (V.move rfl rfl) rfl ?_
    refine RL.val (Wanted.free rfl) (V.move rfl rfl) rfl ?_
    refine RL.val (Wanted.free rfl) (V.bin rfl rfl rfl (B.subI (by omega) (by omega))) rfl ?_
    rw [show (n : Int) - (k : Int) = ((n - k : Nat) : Int) from by omega]
    refine RL.val (Wanted.free rfl) (V.move rfl rfl) rfl ?_
    refine RL.val (Wanted.free rfl) (V.move rfl rfl) rfl ?_
    refine RL.val (Wanted.free rfl) (V.bin rfl rfl rfl (B.subI (by omega) (by omega))) rfl ?_
    rw [show (i : Int) - (k : Int) = ((i - k : Nat) : Int) from by omega]
    refine RL.val (Wanted.free rfl) (V.loadAgg (us := leaf.map v8) rfl ag25 rfl pickX (take8 hlf) (by rw [List.length_map]; exact hlf)) rfl ?_
    refine RL.val (Wanted.free rfl) (V.move rfl rfl) rfl ?_
    refine RL.eff (Wanted.free rfl) (E.call rfl go60 rfl (ih (n - k) (by omega) (i - k) (p.take (p.length - 1)) _ _ _ _ (by omega) (by omega) memX)) rfl ?_
    rintro _ _ ⟨rfl, rfl⟩
    refine RL.val (Wanted.free rfl) (V.move rfl rfl) rfl ?_
    refine RL.val (Wanted.free rfl) (V.extract rfl rfl rfl) rfl ?_
    refine RL.val (Wanted.free rfl) (V.extract rfl rfl rfl) rfl ?_
    refine RL.eff (Wanted.free rfl) (E.alloc rfl ze25) rfl ?_
    rintro _ _ ⟨b15, rfl, rfl⟩
    refine RL.eff (Wanted.free rfl) (E.storeWhole rfl rfl rfl (by rw [List.length_map]; exact (rclimb_len hlf)) sz25 pickX (one8 _) (by first | rfl | (rw [List.length_replicate]))) rfl ?_
    rintro _ _ rfl
    refine RL.val (Wanted.free rfl) (V.assign rfl rfl) rfl ?_
    refine RL.nil ?_
    refine SG.seq ?_
    refine SG.region ?_
    refine RL.val (Wanted.free rfl) (V.loadAgg (us := x.map v8) rfl ag25 rfl pickX (take8 hxl) (by rw [List.length_map]; exact hxl)) rfl ?_
    refine RL.val (Wanted.free rfl) (V.loadAgg rfl ag25 rfl pickX (take8 (rclimb_len hlf)) (by rw [List.length_map]; exact (rclimb_len hlf))) rfl ?_
    refine RL.eff (Wanted.free rfl) (E.call rfl go50 rfl (rnode_ok hxl (rclimb_len hlf))) rfl ?_
    rintro _ _ ⟨rfl, rfl⟩
    refine RL.val (Wanted.free rfl) (V.move rfl rfl) rfl ?_
    refine RL.eff (Wanted.free rfl) (E.storeWhole rfl rfl rfl (by rw [List.length_map]; exact (node_length _ _)) sz25 pickX (one8 _) (by first | rfl | (rw [List.length_replicate]))) rfl ?_
    rintro _ _ rfl
    refine RL.val (Wanted.free rfl) (V.assign rfl rfl) rfl ?_
    refine RL.nil ?_
    refine SG.retE (Ret.r2 Tryd.func60 rfl (.agg rfl ag25 pickX (take8 (node_length _ _)) (by rw [List.length_map]; exact node_length _ _)) (.tmp rfl)) ?_ ⟨by rw [rclimb_hi h2 h0 (by rw [hk]; omega), hk, hgx]; rfl, rfl⟩
    exact entX

theorem rclimb_all {κ : World} {leaf : Hs} (hlf : leaf.length = 32) : ∀ (N n : Nat), n ≤ N → rclimbAt κ leaf n
  | 0, n, h => fun _ _ _ _ _ _ h1 => absurd h1 (by omega)
  | N + 1, n, h => fun _ _ _ _ _ _ h1 h2 h3 => rclimb_step h1 h2 hlf h3 fun k hk => rclimb_all hlf N k (by omega)
set_option maxRecDepth 100000 in
set_option maxHeartbeats 1000000 in
theorem rincludes_ok {κ : World} {L : List Assn} {a : Option Addr} {m c : Nat} {p : List Hs} {root leaf : Hs} {n i : Int} (hm : Sl (RArr8 32) a m c p ∈ L) (hr : root.length = 32) (hlf : leaf.length = 32) (hin : inInt n) (hii : inInt i) :
    Ctr Tryd.prog 28 #[.agg ((root).map v8).toArray, vI n, vI i, .agg ((leaf).map v8).toArray, .slice a m c] κ L (fun v M => v = vB (inclV root n i leaf p) ∧ M = L) := by
 refine Ctr.enter (vs := [.agg ((root).map v8).toArray, vI n, vI i, .agg ((leaf).map v8).toArray, .slice a m c]) (m := 38) Tryd.func28 rfl rfl rfl ?_
 refine SG.seq ?_
 refine SG.region ?_
 refine RL.eff (Wanted.free rfl) (E.box (root.map v8) rfl rfl rfl) rfl ?_
 rintro _ _ ⟨b5, rfl, rfl⟩
 refine RL.eff (Wanted.free rfl) (E.box (leaf.map v8) rfl rfl rfl) rfl ?_
 rintro _ _ ⟨b8, rfl, rfl⟩
 refine RL.val (Wanted.free rfl) (V.assign rfl rfl) rfl ?_
 refine RL.nil ?_
 refine SG.seq ?_
 refine SG.seq ?_
 refine SG.region ?_
 refine RL.val (Wanted.free rfl) (V.move rfl rfl) rfl ?_
 refine RL.cmp (Wanted.free rfl) (V.bin rfl rfl rfl B.lss) rfl (fun h5 => ?_) (fun h5 => ?_)
 ·
  refine RL.val (Wanted.free rfl) (V.move rfl rfl) rfl ?_
  refine RL.skip (Wanted.no rfl rfl rfl rfl rfl) rfl ?_
  refine RL.skip (Wanted.no rfl rfl rfl rfl rfl) rfl ?_
  refine RL.skip (Wanted.no rfl rfl rfl rfl rfl) rfl ?_
  refine RL.val (Wanted.free rfl) (V.pick_true rfl rfl rfl) rfl ?_
  refine RL.val (Wanted.free rfl) (V.move rfl rfl) rfl ?_
  refine RL.skip (Wanted.no rfl rfl rfl rfl rfl) rfl ?_
  refine RL.skip (Wanted.no rfl rfl rfl rfl rfl) rfl ?_
  refine RL.val (Wanted.free rfl) (V.pick_true rfl rfl rfl) rfl ?_
  refine RL.nil ?_
  refine SG.cond_true rfl ?_
  refine SG.seq ?_
  refine SG.region ?_
  refine RL.val (Wanted.free rfl) (V.assign rfl rfl) rfl ?_
  refine RL.nil ?_
  refine SG.retE (Ret.r1 Tryd.func28 rfl (.tmp rfl)) ?_ ⟨by rw [← incl_same, rincl_bad (by omega)], rfl⟩
  exact entX
 ·
  refine RL.val (Wanted.free rfl) (V.move rfl rfl) rfl ?_
  refine RL.val (Wanted.yes rfl rfl rfl rfl) (V.move rfl rfl) rfl ?_
  refine RL.val (Wanted.yes rfl rfl rfl rfl) (V.move rfl rfl) rfl ?_
  refine RL.cmp (Wanted.yes rfl rfl rfl rfl) (V.bin rfl rfl rfl B.geq) rfl (fun h12 => ?_) (fun h12 => ?_)
  ·
   refine RL.val (Wanted.free rfl) (V.pick_false rfl rfl rfl) rfl ?_
   refine RL.val (Wanted.free rfl) (V.move rfl rfl) rfl ?_
   refine RL.skip (Wanted.no rfl rfl rfl rfl rfl) rfl ?_
   refine RL.skip (Wanted.no rfl rfl rfl rfl rfl) rfl ?_
   refine RL.val (Wanted.free rfl) (V.pick_true rfl rfl rfl) rfl ?_
   refine RL.nil ?_
   refine SG.cond_true rfl ?_
   refine SG.seq ?_
   refine SG.region ?_
   refine RL.val (Wanted.free rfl) (V.assign rfl rfl) rfl ?_
   refine RL.nil ?_
   refine SG.retE (Ret.r1 Tryd.func28 rfl (.tmp rfl)) ?_ ⟨by rw [← incl_same, rincl_bad (by omega)], rfl⟩
   exact entX
  ·
   refine RL.val (Wanted.free rfl) (V.pick_false rfl rfl rfl) rfl ?_
   refine RL.val (Wanted.free rfl) (V.move rfl rfl) rfl ?_
   refine RL.val (Wanted.yes rfl rfl rfl rfl) (V.move rfl rfl) rfl ?_
   refine RL.cmp (Wanted.yes rfl rfl rfl rfl) (V.bin rfl rfl rfl B.gtr) rfl (fun h17 => ?_) (fun h17 => ?_)
   ·
    refine RL.val (Wanted.free rfl) (V.pick_false rfl rfl rfl) rfl ?_
    refine RL.nil ?_
    refine SG.cond_true rfl ?_
    refine SG.seq ?_
    refine SG.region ?_
    refine RL.val (Wanted.free rfl) (V.assign rfl rfl) rfl ?_
    refine RL.nil ?_
    refine SG.retE (Ret.r1 Tryd.func28 rfl (.tmp rfl)) ?_ ⟨by rw [← incl_same, rincl_bad (by omega)], rfl⟩
    exact entX
   ·
    refine RL.val (Wanted.free rfl) (V.pick_false rfl rfl rfl) rfl ?_
    refine RL.nil ?_
    refine SG.cond_false rfl ?_
    refine SG.skip ?_
    refine SG.seq ?_
    obtain ⟨i, rfl⟩ := Int.eq_ofNat_of_zero_le (show 0 ≤ i by omega)
    obtain ⟨n, rfl⟩ := Int.eq_ofNat_of_zero_le (show 0 ≤ n by omega)
    have hb := rincl_ok (root := root) (leaf := leaf) (p := p) (n := n) (i := i) (by omega) (by omega)
    rw [incl_same] at hb
    refine SG.region ?_
    refine RL.val (Wanted.free rfl) (V.move rfl rfl) rfl ?_
    refine RL.val (Wanted.free rfl) (V.move rfl rfl) rfl ?_
    refine RL.val (Wanted.free rfl) (V.loadAgg (us := leaf.map v8) rfl ag25 rfl pickX (take8 hlf) (by rw [List.length_map]; exact hlf)) rfl ?_
    refine RL.val (Wanted.free rfl) (V.move rfl rfl) rfl ?_
    refine RL.eff (Wanted.free rfl) (E.call rfl go60 rfl (rclimb_all hlf _ n (Nat.le_refl _) i p _ _ _ _ (by omega) (by omega) memX)) rfl ?_
    rintro _ _ ⟨rfl, rfl⟩
    refine RL.val (Wanted.free rfl) (V.move rfl rfl) rfl ?_
    refine RL.val (Wanted.free rfl) (V.extract rfl rfl rfl) rfl ?_
    refine RL.val (Wanted.free rfl) (V.extract rfl rfl rfl) rfl ?_
    refine RL.eff (Wanted.free rfl) (E.alloc rfl ze25) rfl ?_
    rintro _ _ ⟨b11, rfl, rfl⟩
    refine RL.eff (Wanted.free rfl) (E.storeWhole rfl rfl rfl (by rw [List.length_map]; exact (rclimb_len hlf)) sz25 pickX (one8 _) (by first | rfl | (rw [List.length_replicate]))) rfl ?_
    rintro _ _ rfl
    refine RL.val (Wanted.free rfl) (V.assign rfl rfl) rfl ?_
    refine RL.nil ?_
    refine SG.seq ?_
    obtain ⟨ok, hok⟩ : ∃ ok, (rclimbV leaf n i p).2 = ok := ⟨_, rfl⟩
    rw [hok] at hb ⊢
    refine SG.region ?_
    refine RL.val (Wanted.free rfl) (V.move rfl rfl) rfl ?_
    refine RL.val (Wanted.free rfl) (V.move rfl rfl) rfl ?_
    refine RL.split 33 rfl (fun g32 => ?_) (fun g32 => ?_)
    ·
     have e : ok = true := g32
     rw [e, Bool.true_and] at hb
     refine RL.val (Wanted.yes rfl rfl rfl rfl) (V.loadAgg rfl ag25 rfl pickX (take8 (rclimb_len hlf)) (by rw [List.length_map]; exact (rclimb_len hlf))) rfl ?_
     refine RL.val (Wanted.yes rfl rfl rfl rfl) (V.loadAgg (us := root.map v8) rfl ag25 rfl pickX (take8 hr) (by rw [List.length_map]; exact hr)) rfl ?_
     refine RL.cmp (Wanted.yes rfl rfl rfl rfl) (V.eqlArr rfl ar25 on5 ui5 ce25 eg25 inj8 (rclimb_len hlf) hr rfl rfl) rfl (fun h35 => ?_) (fun h35 => ?_)
     ·
      rw [decide_eq_true h35] at hb
      refine RL.val (Wanted.free rfl) (V.pick_true rfl rfl rfl) rfl ?_
      refine RL.val (Wanted.free rfl) (V.assign rfl rfl) rfl ?_
      refine RL.nil ?_
      refine SG.retE (Ret.r1 Tryd.func28 rfl (.tmp rfl)) ?_ ⟨by rw [hb], rfl⟩
      exact entX
     ·
      rw [decide_eq_false h35] at hb
      refine RL.val (Wanted.free rfl) (V.pick_true rfl rfl rfl) rfl ?_
      refine RL.val (Wanted.free rfl) (V.assign rfl rfl) rfl ?_
      refine RL.nil ?_
      refine SG.retE (Ret.r1 Tryd.func28 rfl (.tmp rfl)) ?_ ⟨by rw [hb], rfl⟩
      exact entX
    ·
     have e : ok = false := g32
     rw [e, Bool.false_and] at hb
     refine RL.skip (Wanted.no rfl rfl rfl rfl rfl) rfl ?_
     refine RL.skip (Wanted.no rfl rfl rfl rfl rfl) rfl ?_
     refine RL.skip (Wanted.no rfl rfl rfl rfl rfl) rfl ?_
     refine RL.val (Wanted.free rfl) (V.pick_false rfl rfl rfl) rfl ?_
     refine RL.val (Wanted.free rfl) (V.assign rfl rfl) rfl ?_
     refine RL.nil ?_
     refine SG.retE (Ret.r1 Tryd.func28 rfl (.tmp rfl)) ?_ ⟨by rw [hb], rfl⟩
     exact entX

end Go.Proofs.YtcbloadpffjkiaaDoor
