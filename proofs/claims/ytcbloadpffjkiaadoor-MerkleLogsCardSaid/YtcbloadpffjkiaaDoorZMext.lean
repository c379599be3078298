/- Extends. -/
import Derived.Test.YtcbloadpffjkiaaDoorZMtake
namespace Go.Proofs.YtcbloadpffjkiaaDoor
open Go.Wk Go.Mk Go.Sha

def climbEAt (κ : World) (old : Hs) (p : List Hs) (n : Nat) : Prop := ∀ {q : Nat} {w : Bool} {t : Tk} {L : List Assn} {L1 Lf Lc Ll : List Assn} {bl bm bp b5 b11 b13 : Nat} {a : Option Addr} {m c : Nat}, 1 ≤ q → q ≤ n → n ≤ 65536 → t.left ≤ m → Pick (Tka bl bm bp a m c t) L L1 → Sl (RArr8 32) a m c p ∈ L1 → Tab L1 → Pick (Blk b5 25 (old.map v8)) L1 Ll → Pick (Blk b11 82 [.func (.func 83) #[] [ptr bl 0, ptr bm 0, ptr bp 0].toArray]) L1 Lf → Pick (Blk b13 88 [.func (.func 61) #[] [ptr b5 0, ptr b11 0, ptr b13 0].toArray]) L1 Lc → Ctr Tryd.prog 61 #[vI (q : Int), vI (n : Int), vB w, ptr b5 0, ptr b11 0, ptr b13 0] κ L (fun v M => v = .tuple #[.agg (((climbE old p q n w t).1).map v8).toArray, .agg (((climbE old p q n w t).2.1).map v8).toArray] ∧ M = Tka bl bm bp a m c (climbE old p q n w t).2.2 :: L1)
set_option maxRecDepth 100000 in
set_option maxHeartbeats 1000000 in
theorem climbE_step {κ : World} {L : List Assn} {L1 Lf Lc Ll : List Assn} {bl bm bp b5 b11 b13 : Nat} {a : Option Addr} {m c : Nat} {p : List Hs} {old : Hs} {q n : Nat} {w : Bool} {t : Tk} (hq0 : 1 ≤ q) (hqn : q ≤ n) (hn : n ≤ 65536) (ht : t.left ≤ m) (ho : old.length = 32) (hp : Pick (Tka bl bm bp a m c t) L L1) (hm : Sl (RArr8 32) a m c p ∈ L1) (hT : Tab L1) (h5 : Pick (Blk b5 25 (old.map v8)) L1 Ll) (h11 : Pick (Blk b11 82 [.func (.func 83) #[] [ptr bl 0, ptr bm 0, ptr bp 0].toArray]) L1 Lf) (h13 : Pick (Blk b13 88 [.func (.func 61) #[] [ptr b5 0, ptr b11 0, ptr b13 0].toArray]) L1 Lc) (ih : ∀ k, k < n → climbEAt κ old p k) :
    Ctr Tryd.prog 61 #[vI (q : Int), vI (n : Int), vB w, ptr b5 0, ptr b11 0, ptr b13 0] κ L (fun v M => v = .tuple #[.agg (((climbE old p q n w t).1).map v8).toArray, .agg (((climbE old p q n w t).2.1).map v8).toArray] ∧ M = Tka bl bm bp a m c (climbE old p q n w t).2.2 :: L1) := by
 refine Ctr.enter (vs := [vI (q : Int), vI (n : Int), vB w, ptr b5 0, ptr b11 0, ptr b13 0]) (m := 66) Tryd.func61 rfl rfl rfl ?_
 refine SG.ent hp ?_
 unfold Tab at hT
 refine SG.fact (fun w hs => Sep.slArr (a := a) (l := p) hs memX) fun h32 => ?_
 refine SG.sl (T := RArr8 32) (a := a) (l := p) memX fun hmp hc hc63 => ?_
 subst hmp
 have hsl := take_len h32 ht
 refine SG.seq ?_
 refine SG.region ?_
 refine RL.eff (Wanted.free rfl) (E.alloc rfl ze25) rfl ?_
 rintro _ _ ⟨b9, rfl, rfl⟩
 refine RL.eff (Wanted.free rfl) (E.alloc rfl ze25) rfl ?_
 rintro _ _ ⟨b10, rfl, rfl⟩
 refine RL.nil ?_
 refine SG.seq ?_
 refine SG.seq ?_
 refine SG.region ?_
 refine RL.val (Wanted.free rfl) (V.move rfl rfl) rfl ?_
 refine RL.val (Wanted.free rfl) (V.move rfl rfl) rfl ?_
 refine RL.cmp (Wanted.free rfl) (V.bin rfl rfl rfl B.eql) rfl (fun h5 => ?_) (fun h5 => ?_)
 ·
  refine RL.val (Wanted.free rfl) (V.move rfl rfl) rfl ?_
  refine RL.val (Wanted.yes rfl rfl rfl rfl) (V.move rfl rfl) rfl ?_
  refine RL.val (Wanted.free rfl) (V.pick_true rfl rfl rfl) rfl ?_
  refine RL.nil ?_
  refine SG.cond rfl (fun h8 => ?_) (fun h8 => ?_)
  ·
   refine SG.seq ?_
   obtain rfl : q = n := by omega
   have hw : w = true := by assumption
   subst hw
   refine SG.drawN 4 4 (L1) wide rfl rfl (by repeat (first | exact Ent.refl _ | (apply Ent.cons; (· repeat (first | exact Pick.here | (refine Pick.sl ?_; (· repeat (first | exact List.Mem.head _ | assumption | apply List.Mem.tail))) | apply Pick.there))) | (refine Ent.trans (Ent.drop _ _) ?_))) ?_
   refine RH.val 0 rfl krX krX krX krX (Wanted.free rfl) (V.loadAgg (us := (old).map v8) rfl ag25 rfl pickX (take8 ho) (by rw [List.length_map]; exact ho)) rfl ?_
   refine RH.val 1 rfl krX krX krX krX (Wanted.free rfl) (V.loadAgg (us := (old).map v8) rfl ag25 rfl pickX (take8 ho) (by rw [List.length_map]; exact ho)) rfl ?_
   refine RH.one (i := 2) krX ?_
   refine RHone.eff rfl (Wanted.free rfl) (E.storeWhole rfl rfl rfl (by rw [List.length_map]; exact ho) sz25 pickX (one8 _) (by first | rfl | (rw [List.length_replicate]))) rfl ?_
   rintro _ _ rfl
   refine ⟨.inr entX, ?_⟩
   refine RH.one (i := 3) krX ?_
   refine RHone.eff rfl (Wanted.free rfl) (E.storeWhole rfl rfl rfl (by rw [List.length_map]; exact ho) sz25 pickX (one8 _) (by first | rfl | (rw [List.length_replicate]))) rfl ?_
   rintro _ _ rfl
   refine ⟨.inr entX, ?_⟩
   refine RH.done krX ?_
   refine SG.retE (Ret.r2 Tryd.func61 rfl (.agg rfl ag25 pickX (take8 (by assumption)) (by rw [List.length_map]; assumption)) (.agg rfl ag25 pickX (take8 (by assumption)) (by rw [List.length_map]; assumption))) ?_ ⟨by rw [climbE_whole], rfl⟩
   rw [climbE_whole]
   dsimp only
   exact entX
  ·
   refine SG.skip ?_
   refine SG.seq ?_
   refine SG.region ?_
   refine RL.val (Wanted.free rfl) (V.load rfl on82 rfl pickX rfl) rfl ?_
   refine RL.eff (Wanted.free rfl) (E.callC (cap := [ptr bl 0, ptr bm 0, ptr bp 0]) rfl rfl go83 rfl (take_ok (p := p) (t := t) pickX memX (by omega))) rfl ?_
   rintro _ _ ⟨rfl, rfl⟩
   refine RL.eff (Wanted.free rfl) (E.alloc rfl ze25) rfl ?_
   rintro _ _ ⟨bs, rfl, rfl⟩
   refine RL.eff (Wanted.free rfl) (E.storeWhole rfl rfl rfl (by rw [List.length_map]; exact hsl) sz25 pickX (one8 _) (by first | rfl | (rw [List.length_replicate]))) rfl ?_
   rintro _ _ rfl
   refine RL.nil ?_
   refine SG.seq ?_
   refine SG.seq ?_
   refine SG.region ?_
   refine RL.val (Wanted.free rfl) (V.move rfl rfl) rfl ?_
   refine RL.val (Wanted.free rfl) (V.move rfl rfl) rfl ?_
   refine RL.cmpT (Wanted.free rfl) (V.bin rfl rfl rfl B.eql) rfl (by omega) ?_
   refine RL.nil ?_
   refine SG.cond_true rfl ?_
   refine SG.seq ?_
   obtain rfl : q = n := by omega
   have hw : w = false := by cases w <;> simp_all
   subst hw
   refine SG.drawN 4 4 (Blk bs 25 ((takeV p t).1.map v8) :: L1) wide rfl rfl (by repeat (first | exact Ent.refl _ | (apply Ent.cons; (· repeat (first | exact Pick.here | (refine Pick.sl ?_; (· repeat (first | exact List.Mem.head _ | assumption | apply List.Mem.tail))) | apply Pick.there))) | (refine Ent.trans (Ent.drop _ _) ?_))) ?_
   refine RH.val 0 rfl krX krX krX krX (Wanted.free rfl) (V.loadAgg (us := ((takeV p t).1).map v8) rfl ag25 rfl pickX (take8 hsl) (by rw [List.length_map]; exact hsl)) rfl ?_
   refine RH.val 1 rfl krX krX krX krX (Wanted.free rfl) (V.loadAgg (us := ((takeV p t).1).map v8) rfl ag25 rfl pickX (take8 hsl) (by rw [List.length_map]; exact hsl)) rfl ?_
   refine RH.one (i := 2) krX ?_
   refine RHone.eff rfl (Wanted.free rfl) (E.storeWhole rfl rfl rfl (by rw [List.length_map]; exact hsl) sz25 pickX (one8 _) (by first | rfl | (rw [List.length_replicate]))) rfl ?_
   rintro _ _ rfl
   refine ⟨.inr entX, ?_⟩
   refine RH.one (i := 3) krX ?_
   refine RHone.eff rfl (Wanted.free rfl) (E.storeWhole rfl rfl rfl (by rw [List.length_map]; exact hsl) sz25 pickX (one8 _) (by first | rfl | (rw [List.length_replicate]))) rfl ?_
   rintro _ _ rfl
   refine ⟨.inr entX, ?_⟩
   refine RH.done krX ?_
   refine SG.retE (Ret.r2 Tryd.func61 rfl (.agg rfl ag25 pickX (take8 (by assumption)) (by rw [List.length_map]; assumption)) (.agg rfl ag25 pickX (take8 (by assumption)) (by rw [List.length_map]; assumption))) ?_ ⟨by rw [climbE_part], rfl⟩
   rw [climbE_part]
   dsimp only
   exact entX
 ·
  refine RL.val (Wanted.free rfl) (V.move rfl rfl) rfl ?_
  refine RL.skip (Wanted.no rfl rfl rfl rfl rfl) rfl ?_
  refine RL.val (Wanted.free rfl) (V.pick_false rfl rfl rfl) rfl ?_
  refine RL.nil ?_
  refine SG.cond_false rfl ?_
  refine SG.skip ?_
  refine SG.seq ?_
  refine SG.region ?_
  refine RL.val (Wanted.free rfl) (V.load rfl on82 rfl pickX rfl) rfl ?_
  refine RL.eff (Wanted.free rfl) (E.callC (cap := [ptr bl 0, ptr bm 0, ptr bp 0]) rfl rfl go83 rfl (take_ok (p := p) (t := t) pickX memX (by omega))) rfl ?_
  rintro _ _ ⟨rfl, rfl⟩
  refine RL.eff (Wanted.free rfl) (E.alloc rfl ze25) rfl ?_
  rintro _ _ ⟨bs, rfl, rfl⟩
  refine RL.eff (Wanted.free rfl) (E.storeWhole rfl rfl rfl (by rw [List.length_map]; exact hsl) sz25 pickX (one8 _) (by first | rfl | (rw [List.length_replicate]))) rfl ?_
  rintro _ _ rfl
  refine RL.nil ?_
  refine SG.seq ?_
  refine SG.seq ?_
  refine SG.region ?_
  refine RL.val (Wanted.free rfl) (V.move rfl rfl) rfl ?_
  refine RL.val (Wanted.free rfl) (V.move rfl rfl) rfl ?_
  refine RL.cmpF (Wanted.free rfl) (V.bin rfl rfl rfl B.eql) rfl (by omega) ?_
  refine RL.nil ?_
  refine SG.cond_false rfl ?_
  refine SG.skip ?_
  refine SG.seq ?_
  have hne : q ≠ n := by omega
  have h2 : ¬ n < 2 := by omega
  obtain ⟨k, hk⟩ : ∃ k, spl n = k := ⟨_, rfl⟩
  have hk1 := spl_lt (n := n) (by omega)
  have hk2 := spl_pos n
  rw [hk] at hk1 hk2
  refine SG.region ?_
  refine RL.val (Wanted.free rfl) (V.move rfl rfl) rfl ?_
  refine RL.eff (Wanted.free rfl) (E.call rfl go46 rfl (split_ok (n := n) (by omega) (by omega))) rfl ?_
  rintro _ _ ⟨rfl, rfl⟩
  rw [hk]
  refine RL.val (Wanted.free rfl) (V.assign rfl rfl) rfl ?_
  refine RL.nil ?_
  refine SG.seq ?_
  refine SG.seq ?_
  refine SG.region ?_
  refine RL.val (Wanted.free rfl) (V.move rfl rfl) rfl ?_
  refine RL.val (Wanted.free rfl) (V.move rfl rfl) rfl ?_
  refine RL.cmp (Wanted.free rfl) (V.bin rfl rfl rfl B.leq) rfl (fun h35 => ?_) (fun h35 => ?_)
  ·
   refine RL.nil ?_
   refine SG.cond_true rfl ?_
   refine SG.seq ?_
   have hl1 : (climbE old p q k w (takeV p t).2).1.length = 32 := (climbE_len ho h32 _ _ _ _ _ (Nat.le_refl _) (Nat.le_trans (take_left p t) ht)).1
   have hl2 : (climbE old p q k w (takeV p t).2).2.1.length = 32 := (climbE_len ho h32 _ _ _ _ _ (Nat.le_refl _) (Nat.le_trans (take_left p t) ht)).2
   refine SG.region ?_
   refine RL.val (Wanted.free rfl) (V.load rfl on88 rfl pickX rfl) rfl ?_
   refine RL.val (Wanted.free rfl) (V.move rfl rfl) rfl ?_
   refine RL.val (Wanted.free rfl) (V.move rfl rfl) rfl ?_
   refine RL.val (Wanted.free rfl) (V.move rfl rfl) rfl ?_
   refine RL.eff (Wanted.free rfl) (E.callC (cap := [ptr b5 0, ptr b11 0, ptr b13 0]) rfl rfl go61 rfl (ih k (by omega) (q := q) (w := w) (t := (takeV p t).2) (bl := bl) (bm := bm) (bp := bp) (a := a) (m := p.length) (c := c) (by omega) (by omega) (by omega) (Nat.le_trans (take_left p t) ht) pickX memX (by unfold Tab; repeat (first | exact List.Mem.head _ | assumption | apply List.Mem.tail)) pickX pickX pickX)) rfl ?_
   rintro _ _ ⟨rfl, rfl⟩
   refine RL.val (Wanted.free rfl) (V.move rfl rfl) rfl ?_
   refine RL.val (Wanted.free rfl) (V.extract rfl rfl rfl) rfl ?_
   refine RL.val (Wanted.free rfl) (V.extract rfl rfl rfl) rfl ?_
   refine RL.eff (Wanted.free rfl) (E.alloc rfl ze25) rfl ?_
   rintro _ _ ⟨b13_, rfl, rfl⟩
   refine RL.eff (Wanted.free rfl) (E.alloc rfl ze25) rfl ?_
   rintro _ _ ⟨b14, rfl, rfl⟩
   refine RL.eff (Wanted.free rfl) (E.storeWhole rfl rfl rfl (by rw [List.length_map]; exact hl1) sz25 pickX (one8 _) (by first | rfl | (rw [List.length_replicate]))) rfl ?_
   rintro _ _ rfl
   refine RL.eff (Wanted.free rfl) (E.storeWhole rfl rfl rfl (by rw [List.length_map]; exact hl2) sz25 pickX (one8 _) (by first | rfl | (rw [List.length_replicate]))) rfl ?_
   rintro _ _ rfl
   refine RL.nil ?_
   refine SG.seq ?_
   have hn1 : (node (climbE old p q k w (takeV p t).2).2.1 (takeV p t).1).length = 32 := node_length _ _
   refine SG.drawN 6 6 (Blk b14 25 ((climbE old p q k w (takeV p t).2).2.1.map v8) :: Blk b13_ 25 ((climbE old p q k w (takeV p t).2).1.map v8) :: Blk bs 25 ((takeV p t).1.map v8) :: L1) wide rfl rfl (by repeat (first | exact Ent.refl _ | (apply Ent.cons; (· repeat (first | exact Pick.here | (refine Pick.sl ?_; (· repeat (first | exact List.Mem.head _ | assumption | apply List.Mem.tail))) | apply Pick.there))) | (refine Ent.trans (Ent.drop _ _) ?_))) ?_
   refine RH.val 0 rfl krX krX krX krX (Wanted.free rfl) (V.loadAgg (us := ((climbE old p q k w (takeV p t).2).1).map v8) rfl ag25 rfl pickX (take8 hl1) (by rw [List.length_map]; exact hl1)) rfl ?_
   refine RH.val 1 rfl krX krX krX krX (Wanted.free rfl) (V.loadAgg (us := ((climbE old p q k w (takeV p t).2).2.1).map v8) rfl ag25 rfl pickX (take8 hl2) (by rw [List.length_map]; exact hl2)) rfl ?_
   refine RH.val 2 rfl krX krX krX krX (Wanted.free rfl) (V.loadAgg (us := ((takeV p t).1).map v8) rfl ag25 rfl pickX (take8 hsl) (by rw [List.length_map]; exact hsl)) rfl ?_
   refine RH.one (i := 3) krX ?_
   refine RHone.eff rfl (Wanted.free rfl) (E.call rfl go47 rfl (node_ok hl2 hsl (by unfold Tab; repeat (first | exact List.Mem.head _ | assumption | apply List.Mem.tail)))) rfl ?_
   rintro _ _ ⟨rfl, rfl⟩
   refine ⟨.inr entX, ?_⟩
   refine RH.one (i := 4) krX ?_
   refine RHone.eff rfl (Wanted.free rfl) (E.storeWhole rfl rfl rfl (by rw [List.length_map]; exact hl1) sz25 pickX (one8 _) (by first | rfl | (rw [List.length_replicate]))) rfl ?_
   rintro _ _ rfl
   refine ⟨.inr entX, ?_⟩
   refine RH.one (i := 5) krX ?_
   refine RHone.eff rfl (Wanted.free rfl) (E.storeWhole rfl rfl rfl (by rw [List.length_map]; exact hn1) sz25 pickX (one8 _) (by first | rfl | (rw [List.length_replicate]))) rfl ?_
   rintro _ _ rfl
   refine ⟨.inr entX, ?_⟩
   refine RH.done krX ?_
   have hnl := fun (x y : Hs) => node_length x y
   refine SG.retE (Ret.r2 Tryd.func61 rfl (.agg rfl ag25 pickX (take8 (by assumption)) (by rw [List.length_map]; assumption)) (.agg rfl ag25 pickX (take8 (by assumption)) (by rw [List.length_map]; assumption))) ?_ ⟨by rw [climbE_lo hne h2 (by rw [hk]; omega), hk], rfl⟩
   rw [climbE_lo hne h2 (by rw [hk]; omega), hk]
   dsimp only
   exact entX
  ·
   refine RL.nil ?_
   refine SG.cond_false rfl ?_
   refine SG.skip ?_
   refine SG.seq ?_
   have hl1 : (climbE old p (q - k) (n - k) false (takeV p t).2).1.length = 32 := (climbE_len ho h32 _ _ _ _ _ (Nat.le_refl _) (Nat.le_trans (take_left p t) ht)).1
   have hl2 : (climbE old p (q - k) (n - k) false (takeV p t).2).2.1.length = 32 := (climbE_len ho h32 _ _ _ _ _ (Nat.le_refl _) (Nat.le_trans (take_left p t) ht)).2
   refine SG.region ?_
   refine RL.val (Wanted.free rfl) (V.load rfl on88 rfl pickX rfl) rfl ?_
   refine RL.val (Wanted.free rfl) (V.move rfl rfl) rfl ?_
   refine RL.val (Wanted.free rfl) (V.move rfl rfl) rfl ?_
   refine RL.val (Wanted.free rfl) (V.bin rfl rfl rfl (B.subI (by omega) (by omega))) rfl ?_
   rw [show (q : Int) - (k : Int) = ((q - k : Nat) : Int) from by omega]
   refine RL.val (Wanted.free rfl) (V.move rfl rfl) rfl ?_
   refine RL.val (Wanted.free rfl) (V.move rfl rfl) rfl ?_
   refine RL.val (Wanted.free rfl) (V.bin rfl rfl rfl (B.subI (by omega) (by omega))) rfl ?_
   rw [show (n : Int) - (k : Int) = ((n - k : Nat) : Int) from by omega]
   refine RL.eff (Wanted.free rfl) (E.callC (cap := [ptr b5 0, ptr b11 0, ptr b13 0]) rfl rfl go61 rfl (ih (n - k) (by omega) (q := (q - k)) (w := false) (t := (takeV p t).2) (bl := bl) (bm := bm) (bp := bp) (a := a) (m := p.length) (c := c) (by omega) (by omega) (by omega) (Nat.le_trans (take_left p t) ht) pickX memX (by unfold Tab; repeat (first | exact List.Mem.head _ | assumption | apply List.Mem.tail)) pickX pickX pickX)) rfl ?_
   rintro _ _ ⟨rfl, rfl⟩
   refine RL.val (Wanted.free rfl) (V.move rfl rfl) rfl ?_
   refine RL.val (Wanted.free rfl) (V.extract rfl rfl rfl) rfl ?_
   refine RL.val (Wanted.free rfl) (V.extract rfl rfl rfl) rfl ?_
   refine RL.eff (Wanted.free rfl) (E.alloc rfl ze25) rfl ?_
   rintro _ _ ⟨b15, rfl, rfl⟩
   refine RL.eff (Wanted.free rfl) (E.alloc rfl ze25) rfl ?_
   rintro _ _ ⟨b16, rfl, rfl⟩
   refine RL.eff (Wanted.free rfl) (E.storeWhole rfl rfl rfl (by rw [List.length_map]; exact hl1) sz25 pickX (one8 _) (by first | rfl | (rw [List.length_replicate]))) rfl ?_
   rintro _ _ rfl
   refine RL.eff (Wanted.free rfl) (E.storeWhole rfl rfl rfl (by rw [List.length_map]; exact hl2) sz25 pickX (one8 _) (by first | rfl | (rw [List.length_replicate]))) rfl ?_
   rintro _ _ rfl
   refine RL.nil ?_
   refine SG.seq ?_
   have hn1 : (node (takeV p t).1 (climbE old p (q - k) (n - k) false (takeV p t).2).1).length = 32 := node_length _ _
   have hn2 : (node (takeV p t).1 (climbE old p (q - k) (n - k) false (takeV p t).2).2.1).length = 32 := node_length _ _
   refine SG.drawN 8 8 (Blk b16 25 ((climbE old p (q - k) (n - k) false (takeV p t).2).2.1.map v8) :: Blk b15 25 ((climbE old p (q - k) (n - k) false (takeV p t).2).1.map v8) :: Blk bs 25 ((takeV p t).1.map v8) :: L1) wide rfl rfl (by repeat (first | exact Ent.refl _ | (apply Ent.cons; (· repeat (first | exact Pick.here | (refine Pick.sl ?_; (· repeat (first | exact List.Mem.head _ | assumption | apply List.Mem.tail))) | apply Pick.there))) | (refine Ent.trans (Ent.drop _ _) ?_))) ?_
   refine RH.val 0 rfl krX krX krX krX (Wanted.free rfl) (V.loadAgg (us := ((takeV p t).1).map v8) rfl ag25 rfl pickX (take8 hsl) (by rw [List.length_map]; exact hsl)) rfl ?_
   refine RH.val 1 rfl krX krX krX krX (Wanted.free rfl) (V.loadAgg (us := ((climbE old p (q - k) (n - k) false (takeV p t).2).1).map v8) rfl ag25 rfl pickX (take8 hl1) (by rw [List.length_map]; exact hl1)) rfl ?_
   refine RH.val 3 rfl krX krX krX krX (Wanted.free rfl) (V.loadAgg (us := ((takeV p t).1).map v8) rfl ag25 rfl pickX (take8 hsl) (by rw [List.length_map]; exact hsl)) rfl ?_
   refine RH.val 4 rfl krX krX krX krX (Wanted.free rfl) (V.loadAgg (us := ((climbE old p (q - k) (n - k) false (takeV p t).2).2.1).map v8) rfl ag25 rfl pickX (take8 hl2) (by rw [List.length_map]; exact hl2)) rfl ?_
   refine RH.one (i := 2) krX ?_
   refine RHone.eff rfl (Wanted.free rfl) (E.call rfl go47 rfl (node_ok hsl hl1 (by unfold Tab; repeat (first | exact List.Mem.head _ | assumption | apply List.Mem.tail)))) rfl ?_
   rintro _ _ ⟨rfl, rfl⟩
   refine ⟨.inr entX, ?_⟩
   refine RH.one (i := 5) krX ?_
   refine RHone.eff rfl (Wanted.free rfl) (E.call rfl go47 rfl (node_ok hsl hl2 (by unfold Tab; repeat (first | exact List.Mem.head _ | assumption | apply List.Mem.tail)))) rfl ?_
   rintro _ _ ⟨rfl, rfl⟩
   refine ⟨.inr entX, ?_⟩
   refine RH.one (i := 6) krX ?_
   refine RHone.eff rfl (Wanted.free rfl) (E.storeWhole rfl rfl rfl (by rw [List.length_map]; exact hn1) sz25 pickX (one8 _) (by first | rfl | (rw [List.length_replicate]))) rfl ?_
   rintro _ _ rfl
   refine ⟨.inr entX, ?_⟩
   refine RH.one (i := 7) krX ?_
   refine RHone.eff rfl (Wanted.free rfl) (E.storeWhole rfl rfl rfl (by rw [List.length_map]; exact hn2) sz25 pickX (one8 _) (by first | rfl | (rw [List.length_replicate]))) rfl ?_
   rintro _ _ rfl
   refine ⟨.inr entX, ?_⟩
   refine RH.done krX ?_
   have hnl := fun (x y : Hs) => node_length x y
   refine SG.retE (Ret.r2 Tryd.func61 rfl (.agg rfl ag25 pickX (take8 (by assumption)) (by rw [List.length_map]; assumption)) (.agg rfl ag25 pickX (take8 (by assumption)) (by rw [List.length_map]; assumption))) ?_ ⟨by rw [climbE_hi hne h2 (by rw [hk]; omega), hk], rfl⟩
   rw [climbE_hi hne h2 (by rw [hk]; omega), hk]
   dsimp only
   exact entX

end Go.Proofs.YtcbloadpffjkiaaDoor
