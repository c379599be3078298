/- Includes. -/
import Derived.Test.YtcbloadpffjkiaaDoorZMtake
namespace Go.Proofs.YtcbloadpffjkiaaDoor
open Go.Wk Go.Mk Go.Sha

def climbAt (κ : World) (leaf : Hs) (p : List Hs) (n : Nat) : Prop := ∀ {i : Nat} {t : Tk} {L : List Assn} {L1 Lf Lc Ll : List Assn} {bl bm bp b8 b11 b13 : Nat} {a : Option Addr} {m c : Nat}, i < n → n ≤ 65536 → t.left ≤ m → (Pick (Tka bl bm bp a m c t) L L1) → (Sl (RArr8 32) a m c p ∈ L1) → (Tab L1) → (Pick (Blk b8 25 (leaf.map v8)) L1 Ll) → (Pick (Blk b11 82 [.func (.func 83) #[] [ptr bl 0, ptr bm 0, ptr bp 0].toArray]) L1 Lf) → (Pick (Blk b13 85 [.func (.func 59) #[] [ptr b8 0, ptr b11 0, ptr b13 0].toArray]) L1 Lc) → Ctr Tryd.prog 59 #[vI (n : Int), vI (i : Int), ptr b8 0, ptr b11 0, ptr b13 0] κ L (fun v M => v = .agg (((climbV leaf p n i t).1).map v8).toArray ∧ M = Tka bl bm bp a m c (climbV leaf p n i t).2 :: L1)
set_option maxRecDepth 100000 in
set_option maxHeartbeats 1000000 in
theorem climb_step {κ : World} {L : List Assn} {L1 Lf Lc Ll : List Assn} {bl bm bp b8 b11 b13 : Nat} {a : Option Addr} {m c : Nat} {p : List Hs} {leaf : Hs} {n i : Nat} {t : Tk} (hi : i < n) (hn : n ≤ 65536) (ht : t.left ≤ m) (hlf : leaf.length = 32) (hp : Pick (Tka bl bm bp a m c t) L L1) (hm : Sl (RArr8 32) a m c p ∈ L1) (hT : Tab L1) (h8 : Pick (Blk b8 25 (leaf.map v8)) L1 Ll) (h11 : Pick (Blk b11 82 [.func (.func 83) #[] [ptr bl 0, ptr bm 0, ptr bp 0].toArray]) L1 Lf) (h13 : Pick (Blk b13 85 [.func (.func 59) #[] [ptr b8 0, ptr b11 0, ptr b13 0].toArray]) L1 Lc) (ih : ∀ k, k < n → climbAt κ leaf p k) :
    Ctr Tryd.prog 59 #[vI (n : Int), vI (i : Int), ptr b8 0, ptr b11 0, ptr b13 0] κ L (fun v M => v = .agg (((climbV leaf p n i t).1).map v8).toArray ∧ M = Tka bl bm bp a m c (climbV leaf p n i t).2 :: L1) := by
 refine Ctr.enter (vs := [vI (n : Int), vI (i : Int), ptr b8 0, ptr b11 0, ptr b13 0]) (m := 36) Tryd.func59 rfl rfl rfl ?_
 refine SG.ent hp ?_
 unfold Tab at hT
 refine SG.fact (fun w hs => Sep.slArr (a := a) (l := p) hs memX) fun h32 => ?_
 refine SG.sl (T := RArr8 32) (a := a) (l := p) memX fun hmp hc hc63 => ?_
 subst hmp
 refine SG.seq ?_
 refine SG.region ?_
 refine RL.eff (Wanted.free rfl) (E.alloc rfl ze25) rfl ?_
 rintro _ _ ⟨b7, rfl, rfl⟩
 refine RL.nil ?_
 refine SG.seq ?_
 refine SG.seq ?_
 refine SG.region ?_
 refine RL.val (Wanted.free rfl) (V.move rfl rfl) rfl ?_
 refine RL.cmp (Wanted.free rfl) (V.bin rfl rfl rfl B.eql) rfl (fun h3 => ?_) (fun h3 => ?_)
 ·
  refine RL.nil ?_
  refine SG.cond_true rfl ?_
  refine SG.seq ?_
  refine SG.region ?_
  refine RL.val (Wanted.free rfl) (V.loadAgg (us := leaf.map v8) rfl ag25 rfl pickX (take8 hlf) (by rw [List.length_map]; exact hlf)) rfl ?_
  refine RL.eff (Wanted.free rfl) (E.storeWhole rfl rfl rfl (by rw [List.length_map]; exact hlf) sz25 pickX (one8 _) (by first | rfl | (rw [List.length_replicate]))) rfl ?_
  rintro _ _ rfl
  refine RL.nil ?_
  refine SG.retE (Ret.r1 Tryd.func59 rfl (.agg rfl ag25 pickX (take8 hlf) (by rw [List.length_map]; exact hlf))) ?_ ⟨by rw [climb_one (by omega)], rfl⟩
  rw [climb_one (by omega)]
  dsimp only
  exact entX
 ·
  have h2 : ¬ n < 2 := by omega
  obtain ⟨k, hk⟩ : ∃ k, spl n = k := ⟨_, rfl⟩
  have hk1 := spl_lt (n := n) (by omega)
  have hk2 := spl_pos n
  rw [hk] at hk1 hk2
  have hsl := take_len h32 ht
  refine RL.nil ?_
  refine SG.cond_false rfl ?_
  refine SG.skip ?_
  refine SG.seq ?_
  refine SG.join (ι := Nat) (fun b9 => [(0, vI (n : Int)), (1, vI (i : Int)), (3, ptr b11 0), (4, ptr b13 0), (7, ptr b7 0), (8, vI (k : Int)), (9, ptr b9 0)]) (fun b9 => Blk b9 25 ((takeV p t).1.map v8) :: Tka bl bm bp a p.length c (takeV p t).2 :: Blk b7 25 (List.replicate 32 (Value.int IntKind.u8 0)) :: L1) (fun b9 => True) ?_ (fun rest => ?_)
  ·
   rintro b9 _
   try dsimp only
   refine SG.seq ?_
   refine SG.seq ?_
   refine SG.region ?_
   refine RL.val (Wanted.free rfl) (V.move rfl rfl) rfl ?_
   refine RL.val (Wanted.free rfl) (V.move rfl rfl) rfl ?_
   refine RL.cmp (Wanted.free rfl) (V.bin rfl rfl rfl B.lss) rfl (fun h8 => ?_) (fun h8 => ?_)
   ·
    refine RL.nil ?_
    refine SG.cond_true rfl ?_
    refine SG.seq ?_
    refine SG.drawN 7 6 (Blk b9 25 ((takeV p t).1.map v8) :: L1) wide rfl rfl (by repeat (first | exact Ent.refl _ | (apply Ent.cons; (· repeat (first | exact Pick.here | (refine Pick.sl ?_; (· repeat (first | exact List.Mem.head _ | assumption | apply List.Mem.tail))) | apply Pick.there))) | (refine Ent.trans (Ent.drop _ _) ?_))) ?_
    refine RH.val 0 rfl krX krX krX krX (Wanted.free rfl) (V.load rfl on85 rfl pickX rfl) rfl ?_
    refine RH.val 1 rfl krX krX krX krX (Wanted.free rfl) (V.move rfl rfl) rfl ?_
    refine RH.val 2 rfl krX krX krX krX (Wanted.free rfl) (V.move rfl rfl) rfl ?_
    refine RH.val 4 rfl krX krX krX krX (Wanted.free rfl) (V.loadAgg (us := (takeV p t).1.map v8) rfl ag25 rfl pickX (take8 hsl) (by rw [List.length_map]; exact hsl)) rfl ?_
    refine RH.one (i := 3) krX ?_
    refine RHone.eff rfl (Wanted.free rfl) (E.callC (cap := [ptr b8 0, ptr b11 0, ptr b13 0]) rfl rfl go59 rfl (ih k (by omega) (i := i) (t := (takeV p t).2) (bl := bl) (bm := bm) (bp := bp) (a := a) (m := p.length) (c := c) (by omega) (by omega) (Nat.le_trans (take_left p t) ht) pickX memX (by unfold Tab; repeat (first | exact List.Mem.head _ | assumption | apply List.Mem.tail)) pickX pickX pickX)) rfl ?_
    rintro _ _ ⟨rfl, rfl⟩
    refine ⟨.inr entX, ?_⟩
    refine RH.one (i := 5) krX ?_
    refine RHone.eff rfl (Wanted.free rfl) (E.call rfl go47 rfl (node_ok (climb_len hlf) hsl (by unfold Tab; repeat (first | exact List.Mem.head _ | assumption | apply List.Mem.tail)))) rfl ?_
    rintro _ _ ⟨rfl, rfl⟩
    refine ⟨.inr entX, ?_⟩
    refine RH.one (i := 6) krX ?_
    refine RHone.eff rfl (Wanted.free rfl) (E.storeWhole rfl rfl rfl (by rw [List.length_map]; exact (node_length _ _)) sz25 pickX (one8 _) (by first | rfl | (rw [List.length_replicate]))) rfl ?_
    rintro _ _ rfl
    refine ⟨.inl krX, ?_⟩
    refine RH.done krX ?_
    refine SG.retE (Ret.r1 Tryd.func59 rfl (.agg rfl ag25 pickX (take8 (node_length _ _)) (by rw [List.length_map]; exact node_length _ _))) ?_ ⟨by rw [climb_lo h2 (by rw [hk]; omega), hk], rfl⟩
    rw [climb_lo h2 (by rw [hk]; omega), hk]
    dsimp only
    exact entX
   ·
    refine RL.nil ?_
    refine SG.cond_false rfl ?_
    refine SG.skip ?_
    refine SG.seq ?_
    refine SG.drawN 11 10 (Blk b9 25 ((takeV p t).1.map v8) :: L1) wide rfl rfl (by repeat (first | exact Ent.refl _ | (apply Ent.cons; (· repeat (first | exact Pick.here | (refine Pick.sl ?_; (· repeat (first | exact List.Mem.head _ | assumption | apply List.Mem.tail))) | apply Pick.there))) | (refine Ent.trans (Ent.drop _ _) ?_))) ?_
    refine RH.val 0 rfl krX krX krX krX (Wanted.free rfl) (V.loadAgg (us := (takeV p t).1.map v8) rfl ag25 rfl pickX (take8 hsl) (by rw [List.length_map]; exact hsl)) rfl ?_
    refine RH.val 1 rfl krX krX krX krX (Wanted.free rfl) (V.load rfl on85 rfl pickX rfl) rfl ?_
    refine RH.val 2 rfl krX krX krX krX (Wanted.free rfl) (V.move rfl rfl) rfl ?_
    refine RH.val 3 rfl krX krX krX krX (Wanted.free rfl) (V.move rfl rfl) rfl ?_
    refine RH.val 4 rfl krX krX krX krX (Wanted.free rfl) (V.bin rfl rfl rfl (B.subI (by omega) (by omega))) rfl ?_
    rw [show (n : Int) - (k : Int) = ((n - k : Nat) : Int) from by omega]
    refine RH.val 5 rfl krX krX krX krX (Wanted.free rfl) (V.move rfl rfl) rfl ?_
    refine RH.val 6 rfl krX krX krX krX (Wanted.free rfl) (V.move rfl rfl) rfl ?_
    refine RH.val 7 rfl krX krX krX krX (Wanted.free rfl) (V.bin rfl rfl rfl (B.subI (by omega) (by omega))) rfl ?_
    rw [show (i : Int) - (k : Int) = ((i - k : Nat) : Int) from by omega]
    refine RH.one (i := 8) krX ?_
    refine RHone.eff rfl (Wanted.free rfl) (E.callC (cap := [ptr b8 0, ptr b11 0, ptr b13 0]) rfl rfl go59 rfl (ih (n - k) (by omega) (i := (i - k)) (t := (takeV p t).2) (bl := bl) (bm := bm) (bp := bp) (a := a) (m := p.length) (c := c) (by omega) (by omega) (Nat.le_trans (take_left p t) ht) pickX memX (by unfold Tab; repeat (first | exact List.Mem.head _ | assumption | apply List.Mem.tail)) pickX pickX pickX)) rfl ?_
    rintro _ _ ⟨rfl, rfl⟩
    refine ⟨.inr entX, ?_⟩
    refine RH.one (i := 9) krX ?_
    refine RHone.eff rfl (Wanted.free rfl) (E.call rfl go47 rfl (node_ok hsl (climb_len hlf) (by unfold Tab; repeat (first | exact List.Mem.head _ | assumption | apply List.Mem.tail)))) rfl ?_
    rintro _ _ ⟨rfl, rfl⟩
    refine ⟨.inr entX, ?_⟩
    refine RH.one (i := 10) krX ?_
    refine RHone.eff rfl (Wanted.free rfl) (E.storeWhole rfl rfl rfl (by rw [List.length_map]; exact (node_length _ _)) sz25 pickX (one8 _) (by first | rfl | (rw [List.length_replicate]))) rfl ?_
    rintro _ _ rfl
    refine ⟨.inl krX, ?_⟩
    refine RH.done krX ?_
    refine SG.retE (Ret.r1 Tryd.func59 rfl (.agg rfl ag25 pickX (take8 (node_length _ _)) (by rw [List.length_map]; exact node_length _ _))) ?_ ⟨by rw [climb_hi h2 (by rw [hk]; omega), hk], rfl⟩
    rw [climb_hi h2 (by rw [hk]; omega), hk]
    dsimp only
    exact entX
  ·
   refine SG.drawN 7 6 (L1) wide rfl rfl (by repeat (first | exact Ent.refl _ | (apply Ent.cons; (· repeat (first | exact Pick.here | (refine Pick.sl ?_; (· repeat (first | exact List.Mem.head _ | assumption | apply List.Mem.tail))) | apply Pick.there))) | (refine Ent.trans (Ent.drop _ _) ?_))) ?_
   refine RH.val 0 rfl krX krX krX krX (Wanted.free rfl) (V.move rfl rfl) rfl ?_
   refine RH.val 2 rfl krX krX krX krX (Wanted.free rfl) (V.load rfl on82 rfl pickX rfl) rfl ?_
   refine RH.two (i := 1) (j := 4) krX ?_ ?_
   ·
    refine RHone.eff rfl (Wanted.free rfl) (E.call rfl go46 rfl (split_ok (n := n) (by omega) (by omega))) rfl ?_
    rintro _ _ ⟨rfl, rfl⟩
    refine ⟨.inr entX, ?_⟩
    rw [hk]
    refine RH.two (i := 3) (j := 4) krX ?_ ?_
    ·
     refine RHone.eff rfl (Wanted.free rfl) (E.callC (cap := [ptr bl 0, ptr bm 0, ptr bp 0]) rfl rfl go83 rfl (take_ok (p := p) (t := t) pickX memX (by omega))) rfl ?_
     rintro _ _ ⟨rfl, rfl⟩
     refine ⟨.inr entX, ?_⟩
     refine RH.one (i := 4) krX ?_
     refine RHone.eff rfl (Wanted.free rfl) (E.alloc rfl ze25) rfl ?_
     rintro _ _ ⟨b9, rfl, rfl⟩
     refine ⟨.inr entX, ?_⟩
     refine RH.val 5 rfl krX krX krX krX (Wanted.free rfl) (V.assign rfl rfl) rfl ?_
     refine RH.one (i := 6) krX ?_
     refine RHone.eff rfl (Wanted.free rfl) (E.storeWhole rfl rfl rfl (by rw [List.length_map]; exact hsl) sz25 pickX (one8 _) (by first | rfl | (rw [List.length_replicate]))) rfl ?_
     rintro _ _ rfl
     refine ⟨.inl krX, ?_⟩
     refine RH.done krX ?_
     refine SG.weaken (rest b9 trivial) ?_ ?_
     ·
      repeat (first | exact EnvLe.nil _ | refine EnvLe.cons rfl ?_)
     ·
      exact entX
    ·
     refine RHone.eff rfl (Wanted.free rfl) (E.alloc rfl ze25) rfl ?_
     rintro _ _ ⟨b9, rfl, rfl⟩
     refine ⟨.inr entX, ?_⟩
     refine RH.one (i := 3) krX ?_
     refine RHone.eff rfl (Wanted.free rfl) (E.callC (cap := [ptr bl 0, ptr bm 0, ptr bp 0]) rfl rfl go83 rfl (take_ok (p := p) (t := t) pickX memX (by omega))) rfl ?_
     rintro _ _ ⟨rfl, rfl⟩
     refine ⟨.inr entX, ?_⟩
     refine RH.val 5 rfl krX krX krX krX (Wanted.free rfl) (V.assign rfl rfl) rfl ?_
     refine RH.one (i := 6) krX ?_
     refine RHone.eff rfl (Wanted.free rfl) (E.storeWhole rfl rfl rfl (by rw [List.length_map]; exact hsl) sz25 pickX (one8 _) (by first | rfl | (rw [List.length_replicate]))) rfl ?_
     rintro _ _ rfl
     refine ⟨.inl krX, ?_⟩
     refine RH.done krX ?_
     refine SG.weaken (rest b9 trivial) ?_ ?_
     ·
      repeat (first | exact EnvLe.nil _ | refine EnvLe.cons rfl ?_)
     ·
      exact entX
   ·
    refine RHone.eff rfl (Wanted.free rfl) (E.alloc rfl ze25) rfl ?_
    rintro _ _ ⟨b9, rfl, rfl⟩
    refine ⟨.inr entX, ?_⟩
    refine RH.one (i := 1) krX ?_
    refine RHone.eff rfl (Wanted.free rfl) (E.call rfl go46 rfl (split_ok (n := n) (by omega) (by omega))) rfl ?_
    rintro _ _ ⟨rfl, rfl⟩
    refine ⟨.inr entX, ?_⟩
    rw [hk]
    refine RH.one (i := 3) krX ?_
    refine RHone.eff rfl (Wanted.free rfl) (E.callC (cap := [ptr bl 0, ptr bm 0, ptr bp 0]) rfl rfl go83 rfl (take_ok (p := p) (t := t) pickX memX (by omega))) rfl ?_
    rintro _ _ ⟨rfl, rfl⟩
    refine ⟨.inr entX, ?_⟩
    refine RH.val 5 rfl krX krX krX krX (Wanted.free rfl) (V.assign rfl rfl) rfl ?_
    refine RH.one (i := 6) krX ?_
    refine RHone.eff rfl (Wanted.free rfl) (E.storeWhole rfl rfl rfl (by rw [List.length_map]; exact hsl) sz25 pickX (one8 _) (by first | rfl | (rw [List.length_replicate]))) rfl ?_
    rintro _ _ rfl
    refine ⟨.inl krX, ?_⟩
    refine RH.done krX ?_
    refine SG.weaken (rest b9 trivial) ?_ ?_
    ·
     repeat (first | exact EnvLe.nil _ | refine EnvLe.cons rfl ?_)
    ·
     exact entX

theorem climb_all {κ : World} {leaf : Hs} {p : List Hs} (hlf : leaf.length = 32) : ∀ (N n : Nat), n ≤ N → climbAt κ leaf p n
  | 0, n, h => fun h1 => absurd h1 (by omega)
  | N + 1, n, h => fun h1 h2 h3 h4 h5 h6 h7 h8 h9 => climb_step h1 h2 h3 hlf h4 h5 h6 h7 h8 h9 fun k hk => climb_all hlf N k (by omega)
set_option maxRecDepth 100000 in
set_option maxHeartbeats 1000000 in
theorem includes_ok {κ : World} {L : List Assn} {a : Option Addr} {m c : Nat} {p : List Hs} {root leaf : Hs} {n i : Int} (hm : Sl (RArr8 32) a m c p ∈ L) (hT : Tab L) (hr : root.length = 32) (hlf : leaf.length = 32) (hin : inInt n) (hii : inInt i) :
    Ctr Tryd.prog 27 #[.agg ((root).map v8).toArray, vI n, vI i, .agg ((leaf).map v8).toArray, .slice a m c] κ L (fun v M => v = vB (inclV root n i leaf p) ∧ M = L) := by
 refine Ctr.enter (vs := [.agg ((root).map v8).toArray, vI n, vI i, .agg ((leaf).map v8).toArray, .slice a m c]) (m := 41) Tryd.func27 rfl rfl rfl ?_
 unfold Tab at hT
 refine SG.fact (fun w hs => Sep.slArr (a := a) (l := p) hs memX) fun h32 => ?_
 refine SG.sl (T := RArr8 32) (a := a) (l := p) memX fun hmp hc hc63 => ?_
 subst hmp
 refine SG.seq ?_
 refine SG.region ?_
 refine RL.eff (Wanted.free rfl) (E.box (root.map v8) rfl rfl rfl) rfl ?_
 rintro _ _ ⟨b5, rfl, rfl⟩
 refine RL.eff (Wanted.free rfl) (E.box (leaf.map v8) rfl rfl rfl) rfl ?_
 rintro _ _ ⟨b8, rfl, rfl⟩
 refine RL.val (Wanted.free rfl) (V.assign rfl rfl) rfl ?_
 refine RL.nil ?_
 refine SG.seq ?_
 refine SG.seq ?_
 refine SG.region ?_
 refine RL.val (Wanted.free rfl) (V.move rfl rfl) rfl ?_
 refine RL.cmp (Wanted.free rfl) (V.bin rfl rfl rfl B.lss) rfl (fun h5 => ?_) (fun h5 => ?_)
 ·
  refine RL.val (Wanted.free rfl) (V.move rfl rfl) rfl ?_
  refine RL.skip (Wanted.no rfl rfl rfl rfl rfl) rfl ?_
  refine RL.skip (Wanted.no rfl rfl rfl rfl rfl) rfl ?_
  refine RL.skip (Wanted.no rfl rfl rfl rfl rfl) rfl ?_
  refine RL.val (Wanted.free rfl) (V.pick_true rfl rfl rfl) rfl ?_
  refine RL.val (Wanted.free rfl) (V.move rfl rfl) rfl ?_
  refine RL.skip (Wanted.no rfl rfl rfl rfl rfl) rfl ?_
  refine RL.skip (Wanted.no rfl rfl rfl rfl rfl) rfl ?_
  refine RL.val (Wanted.free rfl) (V.pick_true rfl rfl rfl) rfl ?_
  refine RL.nil ?_
  refine SG.cond_true rfl ?_
  refine SG.seq ?_
  refine SG.region ?_
  refine RL.val (Wanted.free rfl) (V.assign rfl rfl) rfl ?_
  refine RL.nil ?_
  refine SG.retE (Ret.r1 Tryd.func27 rfl (.tmp rfl)) ?_ ⟨by rw [incl_bad (by omega)], rfl⟩
  exact entX
 ·
  refine RL.val (Wanted.free rfl) (V.move rfl rfl) rfl ?_
  refine RL.val (Wanted.yes rfl rfl rfl rfl) (V.move rfl rfl) rfl ?_
  refine RL.val (Wanted.yes rfl rfl rfl rfl) (V.move rfl rfl) rfl ?_
  refine RL.cmp (Wanted.yes rfl rfl rfl rfl) (V.bin rfl rfl rfl B.geq) rfl (fun h12 => ?_) (fun h12 => ?_)
  ·
   refine RL.val (Wanted.free rfl) (V.pick_false rfl rfl rfl) rfl ?_
   refine RL.val (Wanted.free rfl) (V.move rfl rfl) rfl ?_
   refine RL.skip (Wanted.no rfl rfl rfl rfl rfl) rfl ?_
   refine RL.skip (Wanted.no rfl rfl rfl rfl rfl) rfl ?_
   refine RL.val (Wanted.free rfl) (V.pick_true rfl rfl rfl) rfl ?_
   refine RL.nil ?_
   refine SG.cond_true rfl ?_
   refine SG.seq ?_
   refine SG.region ?_
   refine RL.val (Wanted.free rfl) (V.assign rfl rfl) rfl ?_
   refine RL.nil ?_
   refine SG.retE (Ret.r1 Tryd.func27 rfl (.tmp rfl)) ?_ ⟨by rw [incl_bad (by omega)], rfl⟩
   exact entX
  ·
   refine RL.val (Wanted.free rfl) (V.pick_false rfl rfl rfl) rfl ?_
   refine RL.val (Wanted.free rfl) (V.move rfl rfl) rfl ?_
   refine RL.val (Wanted.yes rfl rfl rfl rfl) (V.move rfl rfl) rfl ?_
   refine RL.cmp (Wanted.yes rfl rfl rfl rfl) (V.bin rfl rfl rfl B.gtr) rfl (fun h17 => ?_) (fun h17 => ?_)
   ·
    refine RL.val (Wanted.free rfl) (V.pick_false rfl rfl rfl) rfl ?_
    refine RL.nil ?_
    refine SG.cond_true rfl ?_
    refine SG.seq ?_
    refine SG.region ?_
    refine RL.val (Wanted.free rfl) (V.assign rfl rfl) rfl ?_
    refine RL.nil ?_
    refine SG.retE (Ret.r1 Tryd.func27 rfl (.tmp rfl)) ?_ ⟨by rw [incl_bad (by omega)], rfl⟩
    exact entX
   ·
    refine RL.val (Wanted.free rfl) (V.pick_false rfl rfl rfl) rfl ?_
    refine RL.nil ?_
    refine SG.cond_false rfl ?_
    refine SG.skip ?_
    refine SG.seq ?_
    obtain ⟨i, rfl⟩ := Int.eq_ofNat_of_zero_le (show 0 ≤ i by omega)
    obtain ⟨n, rfl⟩ := Int.eq_ofNat_of_zero_le (show 0 ≤ n by omega)
    have hb := incl_ok (root := root) (leaf := leaf) (p := p) (n := n) (i := i) (by omega) (by omega)
    refine SG.region ?_
    refine RL.val (Wanted.free rfl) (V.move rfl rfl) rfl ?_
    refine RL.eff (Wanted.free rfl) (E.call rfl go58 rfl (taker_ok)) rfl ?_
    rintro _ _ ⟨bl, bm, bp, rfl, rfl⟩
    refine RL.val (Wanted.free rfl) (V.move rfl rfl) rfl ?_
    refine RL.val (Wanted.free rfl) (V.extract rfl rfl rfl) rfl ?_
    refine RL.val (Wanted.free rfl) (V.extract rfl rfl rfl) rfl ?_
    refine RL.eff (Wanted.free rfl) (E.alloc rfl ze82) rfl ?_
    rintro _ _ ⟨b11, rfl, rfl⟩
    refine RL.eff (Wanted.free rfl) (E.store1 rfl rfl rfl rfl rfl sz82 pickX rfl) rfl ?_
    rintro _ _ rfl
    refine RL.val (Wanted.free rfl) (V.assign rfl rfl) rfl ?_
    refine RL.nil ?_
    refine SG.seq ?_
    refine SG.region ?_
    refine RL.eff (Wanted.free rfl) (E.alloc rfl ze85) rfl ?_
    rintro _ _ ⟨b13, rfl, rfl⟩
    refine RL.nil ?_
    refine SG.seq ?_
    refine SG.region ?_
    refine RL.val (Wanted.free rfl) (V.makeFunc rfl rfl) rfl ?_
    refine RL.eff (Wanted.free rfl) (E.store1 rfl rfl rfl rfl rfl sz85 pickX rfl) rfl ?_
    rintro _ _ rfl
    refine RL.nil ?_
    refine SG.seq ?_
    refine SG.drawN 11 11 (Blk b13 85 [.func (.func 59) #[] [ptr b8 0, ptr b11 0, ptr b13 0].toArray] :: Blk b5 25 (root.map v8) :: L) wide rfl rfl (by repeat (first | exact Ent.refl _ | (apply Ent.cons; (· repeat (first | exact Pick.here | (refine Pick.sl ?_; (· repeat (first | exact List.Mem.head _ | assumption | apply List.Mem.tail))) | apply Pick.there))) | (refine Ent.trans (Ent.drop _ _) ?_))) ?_
    refine RH.val 0 rfl krX krX krX krX (Wanted.free rfl) (V.load rfl on85 rfl pickX rfl) rfl ?_
    refine RH.val 1 rfl krX krX krX krX (Wanted.free rfl) (V.move rfl rfl) rfl ?_
    refine RH.val 2 rfl krX krX krX krX (Wanted.free rfl) (V.move rfl rfl) rfl ?_
    refine RH.val 4 rfl krX krX krX krX (Wanted.free rfl) (V.loadAgg (us := root.map v8) rfl ag25 rfl pickX (take8 hr) (by rw [List.length_map]; exact hr)) rfl ?_
    refine RH.one (i := 3) krX ?_
    refine RHone.eff rfl (Wanted.free rfl) (E.callC (cap := [ptr b8 0, ptr b11 0, ptr b13 0]) rfl rfl go59 rfl (climb_all (p := p) hlf _ n (Nat.le_refl _) (i := i) (t := ⟨p.length, false⟩) (bl := bl) (bm := bm) (bp := bp) (a := a) (m := p.length) (c := c) (by omega) (by omega) (Nat.le_refl _) pickX memX (by unfold Tab; repeat (first | exact List.Mem.head _ | assumption | apply List.Mem.tail)) pickX pickX pickX)) rfl ?_
    rintro _ _ ⟨rfl, rfl⟩
    refine ⟨.inr entX, ?_⟩
    refine RH.cmp 5 rfl krX krX krX krX (Wanted.free rfl) (V.eqlArr rfl ar25 on5 ui5 ce25 eg25 inj8 (climb_len hlf) hr rfl rfl) rfl (fun h35 => ?_) (fun h35 => ?_)
    ·
     rw [decide_eq_true h35, Bool.true_and] at hb
     refine RH.val 6 rfl krX krX krX krX (Wanted.free rfl) (V.move rfl rfl) rfl ?_
     refine RH.val 7 rfl krX krX krX krX (Wanted.yes rfl rfl rfl rfl) (V.move rfl rfl) rfl ?_
     refine RH.one (i := 8) krX ?_
     refine RHone.eff rfl (Wanted.yes rfl rfl rfl rfl) (E.callC (cap := [ptr bl 0, ptr bm 0]) rfl rfl go84 rfl (done_ok pickX)) rfl ?_
     rintro _ _ ⟨rfl, rfl⟩
     refine ⟨.inr entX, ?_⟩
     refine RH.pure 9 rfl krX krX krX krX (Wanted.free rfl) (V.pick_true rfl rfl rfl) rfl ?_
     refine RH.val 10 rfl krX krX krX krX (Wanted.free rfl) (V.assign rfl rfl) rfl ?_
     refine RH.done krX ?_
     refine SG.retE (Ret.r1 Tryd.func27 rfl (.tmp rfl)) ?_ ⟨by rw [hb], rfl⟩
     exact entX
    ·
     rw [decide_eq_false h35, Bool.false_and] at hb
     refine RH.val 6 rfl krX krX krX krX (Wanted.free rfl) (V.move rfl rfl) rfl ?_
     refine RH.skip 7 rfl krX krX krX krX (Wanted.no rfl rfl rfl rfl rfl) rfl ?_
     refine RH.skip 8 rfl krX krX krX krX (Wanted.no rfl rfl rfl rfl rfl) rfl ?_
     refine RH.pure 9 rfl krX krX krX krX (Wanted.free rfl) (V.pick_false rfl rfl rfl) rfl ?_
     refine RH.val 10 rfl krX krX krX krX (Wanted.free rfl) (V.assign rfl rfl) rfl ?_
     refine RH.done krX ?_
     refine SG.retE (Ret.r1 Tryd.func27 rfl (.tmp rfl)) ?_ ⟨by rw [hb], rfl⟩
     exact entX

end Go.Proofs.YtcbloadpffjkiaaDoor
