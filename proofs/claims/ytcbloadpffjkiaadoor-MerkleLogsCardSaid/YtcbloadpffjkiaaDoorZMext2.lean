/- Extends. -/
import Derived.Test.YtcbloadpffjkiaaDoorZMext
namespace Go.Proofs.YtcbloadpffjkiaaDoor
open Go.Wk Go.Mk Go.Sha

theorem climbE_all {κ : World} {old : Hs} {p : List Hs} (ho : old.length = 32) : ∀ (N n : Nat), n ≤ N → climbEAt κ old p n
  | 0, n, h => fun h0 h1 => absurd h1 (by omega)
  | N + 1, n, h => fun h0 h1 h2 h3 h4 h5 h6 h7 h8 h9 => climbE_step h0 h1 h2 h3 ho h4 h5 h6 h7 h8 h9 fun k hk => climbE_all ho N k (by omega)
set_option maxRecDepth 100000 in
set_option maxHeartbeats 1000000 in
theorem extends_ok {κ : World} {L : List Assn} {a : Option Addr} {m c : Nat} {p : List Hs} {old root : Hs} {q n : Int} (hm : Sl (RArr8 32) a m c p ∈ L) (hT : Tab L) (ho : old.length = 32) (hr : root.length = 32) (hqi : inInt q) (hni : inInt n) :
    Ctr Tryd.prog 30 #[.agg ((old).map v8).toArray, vI q, .agg ((root).map v8).toArray, vI n, .slice a m c] κ L (fun v M => v = vB (extV old q root n p) ∧ M = L) := by
 refine Ctr.enter (vs := [.agg ((old).map v8).toArray, vI q, .agg ((root).map v8).toArray, vI n, .slice a m c]) (m := 71) Tryd.func30 rfl rfl rfl ?_
 unfold Tab at hT
 refine SG.fact (fun w hs => Sep.slArr (a := a) (l := p) hs memX) fun h32 => ?_
 refine SG.sl (T := RArr8 32) (a := a) (l := p) memX fun hmp hc hc63 => ?_
 subst hmp
 refine SG.seq ?_
 refine SG.region ?_
 refine RL.eff (Wanted.free rfl) (E.box (old.map v8) rfl rfl rfl) rfl ?_
 rintro _ _ ⟨b5, rfl, rfl⟩
 refine RL.eff (Wanted.free rfl) (E.box (root.map v8) rfl rfl rfl) rfl ?_
 rintro _ _ ⟨b7, rfl, rfl⟩
 refine RL.val (Wanted.free rfl) (V.assign rfl rfl) rfl ?_
 refine RL.nil ?_
 refine SG.seq ?_
 refine SG.seq ?_
 refine SG.region ?_
 refine RL.val (Wanted.free rfl) (V.move rfl rfl) rfl ?_
 refine RL.cmp (Wanted.free rfl) (V.bin rfl rfl rfl B.lss) rfl (fun h5 => ?_) (fun h5 => ?_)
 ·
  refine RL.val (Wanted.free rfl) (V.move rfl rfl) rfl ?_
  refine RL.skip (Wanted.no rfl rfl rfl rfl rfl) rfl ?_
  refine RL.skip (Wanted.no rfl rfl rfl rfl rfl) rfl ?_
  refine RL.skip (Wanted.no rfl rfl rfl rfl rfl) rfl ?_
  refine RL.val (Wanted.free rfl) (V.pick_true rfl rfl rfl) rfl ?_
  refine RL.val (Wanted.free rfl) (V.move rfl rfl) rfl ?_
  refine RL.skip (Wanted.no rfl rfl rfl rfl rfl) rfl ?_
  refine RL.skip (Wanted.no rfl rfl rfl rfl rfl) rfl ?_
  refine RL.val (Wanted.free rfl) (V.pick_true rfl rfl rfl) rfl ?_
  refine RL.nil ?_
  refine SG.cond_true rfl ?_
  refine SG.seq ?_
  refine SG.region ?_
  refine RL.val (Wanted.free rfl) (V.assign rfl rfl) rfl ?_
  refine RL.nil ?_
  refine SG.retE (Ret.r1 Tryd.func30 rfl (.tmp rfl)) ?_ ⟨by rw [ext_bad (by omega)], rfl⟩
  exact entX
 ·
  refine RL.val (Wanted.free rfl) (V.move rfl rfl) rfl ?_
  refine RL.val (Wanted.yes rfl rfl rfl rfl) (V.move rfl rfl) rfl ?_
  refine RL.val (Wanted.yes rfl rfl rfl rfl) (V.move rfl rfl) rfl ?_
  refine RL.cmp (Wanted.yes rfl rfl rfl rfl) (V.bin rfl rfl rfl B.gtr) rfl (fun h12 => ?_) (fun h12 => ?_)
  ·
   refine RL.val (Wanted.free rfl) (V.pick_false rfl rfl rfl) rfl ?_
   refine RL.val (Wanted.free rfl) (V.move rfl rfl) rfl ?_
   refine RL.skip (Wanted.no rfl rfl rfl rfl rfl) rfl ?_
   refine RL.skip (Wanted.no rfl rfl rfl rfl rfl) rfl ?_
   refine RL.val (Wanted.free rfl) (V.pick_true rfl rfl rfl) rfl ?_
   refine RL.nil ?_
   refine SG.cond_true rfl ?_
   refine SG.seq ?_
   refine SG.region ?_
   refine RL.val (Wanted.free rfl) (V.assign rfl rfl) rfl ?_
   refine RL.nil ?_
   refine SG.retE (Ret.r1 Tryd.func30 rfl (.tmp rfl)) ?_ ⟨by rw [ext_bad (by omega)], rfl⟩
   exact entX
  ·
   refine RL.val (Wanted.free rfl) (V.pick_false rfl rfl rfl) rfl ?_
   refine RL.val (Wanted.free rfl) (V.move rfl rfl) rfl ?_
   refine RL.val (Wanted.yes rfl rfl rfl rfl) (V.move rfl rfl) rfl ?_
   refine RL.cmp (Wanted.yes rfl rfl rfl rfl) (V.bin rfl rfl rfl B.gtr) rfl (fun h17 => ?_) (fun h17 => ?_)
   ·
    refine RL.val (Wanted.free rfl) (V.pick_false rfl rfl rfl) rfl ?_
    refine RL.nil ?_
    refine SG.cond_true rfl ?_
    refine SG.seq ?_
    refine SG.region ?_
    refine RL.val (Wanted.free rfl) (V.assign rfl rfl) rfl ?_
    refine RL.nil ?_
    refine SG.retE (Ret.r1 Tryd.func30 rfl (.tmp rfl)) ?_ ⟨by rw [ext_bad (by omega)], rfl⟩
    exact entX
   ·
    refine RL.val (Wanted.free rfl) (V.pick_false rfl rfl rfl) rfl ?_
    refine RL.nil ?_
    refine SG.cond_false rfl ?_
    refine SG.skip ?_
    refine SG.seq ?_
    refine SG.seq ?_
    refine SG.region ?_
    refine RL.val (Wanted.free rfl) (V.move rfl rfl) rfl ?_
    refine RL.cmp (Wanted.free rfl) (V.bin rfl rfl rfl B.eql) rfl (fun h20 => ?_) (fun h20 => ?_)
    ·
     refine RL.nil ?_
     refine SG.cond_true rfl ?_
     refine SG.seq ?_
     obtain rfl : q = 0 := by omega
     have hz := ext_zero (old := old) (root := root) (p := p) (n := n) (by omega)
     refine SG.ent (Sl.nil (T := RArr8 32)) ?_
     refine SG.drawL 18 18 wide rfl rfl ?_
     refine RH.val 0 rfl krX krX krX krX (Wanted.free rfl) (V.loadAgg (us := (old).map v8) rfl ag25 rfl pickX (take8 ho) (by rw [List.length_map]; exact ho)) rfl ?_
     refine RH.one (i := 1) krX ?_
     refine RHone.eff rfl (Wanted.free rfl) (E.call rfl go13 rfl (root_ok (l := []) memX (by unfold Tab; repeat (first | exact List.Mem.head _ | assumption | apply List.Mem.tail)) (Nat.zero_le _))) rfl ?_
     rintro _ _ ⟨rfl, rfl⟩
     refine ⟨.inr entX, ?_⟩
     refine RH.cmp 2 rfl krX krX krX krX (Wanted.free rfl) (V.eqlArr rfl ar25 on5 ui5 ce25 eg25 inj8 ho (root_len (l := []) (fun _ h => by cases h)) rfl rfl) rfl (fun h23 => ?_) (fun h23 => ?_)
     ·
      refine RH.val 3 rfl krX krX krX krX (Wanted.free rfl) (V.move rfl rfl) rfl ?_
      refine RH.val 4 rfl krX krX krX krX (Wanted.yes rfl rfl rfl rfl) (V.move rfl rfl) rfl ?_
      refine RH.val 5 rfl krX krX krX krX (Wanted.yes rfl rfl rfl rfl) (V.len rfl rfl el22.under rfl) rfl ?_
      refine RH.cmp 6 rfl krX krX krX krX (Wanted.yes rfl rfl rfl rfl) (V.bin rfl rfl rfl B.eql) rfl (fun h27 => ?_) (fun h27 => ?_)
      ·
       have hpn : p = [] := List.eq_nil_of_length_eq_zero (by omega)
       refine RH.pure 7 rfl krX krX krX krX (Wanted.free rfl) (V.pick_true rfl rfl rfl) rfl ?_
       refine RH.val 8 rfl krX krX krX krX (Wanted.free rfl) (V.move rfl rfl) rfl ?_
       refine RH.val 9 rfl krX krX krX krX (Wanted.yes rfl rfl rfl rfl) (V.move rfl rfl) rfl ?_
       refine RH.cmp 10 rfl krX krX krX krX (Wanted.yes rfl rfl rfl rfl) (V.bin rfl rfl rfl B.gtr) rfl (fun h30 => ?_) (fun h30 => ?_)
       ·
        refine RH.val 11 rfl krX krX krX krX (Wanted.yes rfl rfl rfl rfl) (V.move rfl rfl) rfl ?_
        refine RH.skip 12 rfl krX krX krX krX (Wanted.no rfl rfl rfl rfl rfl) rfl ?_
        refine RH.skip 13 rfl krX krX krX krX (Wanted.no rfl rfl rfl rfl rfl) rfl ?_
        refine RH.skip 14 rfl krX krX krX krX (Wanted.no rfl rfl rfl rfl rfl) rfl ?_
        refine RH.pure 15 rfl krX krX krX krX (Wanted.yes rfl rfl rfl rfl) (V.pick_true rfl rfl rfl) rfl ?_
        refine RH.pure 16 rfl krX krX krX krX (Wanted.free rfl) (V.pick_true rfl rfl rfl) rfl ?_
        refine RH.val 17 rfl krX krX krX krX (Wanted.free rfl) (V.assign rfl rfl) rfl ?_
        refine RH.done krX ?_
        refine SG.retE (Ret.r1 Tryd.func30 rfl (.tmp rfl)) ?_ ⟨by rw [hz]; unfold extZ; simp [*], rfl⟩
        exact entX
       ·
        refine RH.val 11 rfl krX krX krX krX (Wanted.yes rfl rfl rfl rfl) (V.move rfl rfl) rfl ?_
        refine RH.val 12 rfl krX krX krX krX (Wanted.yes rfl rfl rfl rfl) (V.loadAgg (us := (root).map v8) rfl ag25 rfl pickX (take8 hr) (by rw [List.length_map]; exact hr)) rfl ?_
        refine RH.val 13 rfl krX krX krX krX (Wanted.yes rfl rfl rfl rfl) (V.loadAgg (us := (old).map v8) rfl ag25 rfl pickX (take8 ho) (by rw [List.length_map]; exact ho)) rfl ?_
        refine RH.cmp 14 rfl krX krX krX krX (Wanted.yes rfl rfl rfl rfl) (V.eqlArr rfl ar25 on5 ui5 ce25 eg25 inj8 hr ho rfl rfl) rfl (fun h36 => ?_) (fun h36 => ?_)
        ·
         refine RH.pure 15 rfl krX krX krX krX (Wanted.yes rfl rfl rfl rfl) (V.pick_false rfl rfl rfl) rfl ?_
         refine RH.pure 16 rfl krX krX krX krX (Wanted.free rfl) (V.pick_true rfl rfl rfl) rfl ?_
         refine RH.val 17 rfl krX krX krX krX (Wanted.free rfl) (V.assign rfl rfl) rfl ?_
         refine RH.done krX ?_
         refine SG.retE (Ret.r1 Tryd.func30 rfl (.tmp rfl)) ?_ ⟨by rw [hz]; unfold extZ; simp [*], rfl⟩
         exact entX
        ·
         have hro : ¬ root = rootV [] := fun e => h36 (by rw [e]; symm; assumption)
         refine RH.pure 15 rfl krX krX krX krX (Wanted.yes rfl rfl rfl rfl) (V.pick_false rfl rfl rfl) rfl ?_
         refine RH.pure 16 rfl krX krX krX krX (Wanted.free rfl) (V.pick_true rfl rfl rfl) rfl ?_
         refine RH.val 17 rfl krX krX krX krX (Wanted.free rfl) (V.assign rfl rfl) rfl ?_
         refine RH.done krX ?_
         refine SG.retE (Ret.r1 Tryd.func30 rfl (.tmp rfl)) ?_ ⟨by rw [hz]; unfold extZ; simp [*], rfl⟩
         exact entX
      ·
       have hpn : p ≠ [] := fun e => by rw [e] at h27; exact h27 rfl
       refine RH.pure 7 rfl krX krX krX krX (Wanted.free rfl) (V.pick_true rfl rfl rfl) rfl ?_
       refine RH.val 8 rfl krX krX krX krX (Wanted.free rfl) (V.move rfl rfl) rfl ?_
       refine RH.skip 9 rfl krX krX krX krX (Wanted.no rfl rfl rfl rfl rfl) rfl ?_
       refine RH.skip 10 rfl krX krX krX krX (Wanted.no rfl rfl rfl rfl rfl) rfl ?_
       refine RH.skip 11 rfl krX krX krX krX (Wanted.no rfl rfl rfl rfl rfl) rfl ?_
       refine RH.skip 12 rfl krX krX krX krX (Wanted.un rfl rfl rfl) rfl ?_
       refine RH.skip 13 rfl krX krX krX krX (Wanted.un rfl rfl rfl) rfl ?_
       refine RH.skip 14 rfl krX krX krX krX (Wanted.un rfl rfl rfl) rfl ?_
       refine RH.skip 15 rfl krX krX krX krX (Wanted.no rfl rfl rfl rfl rfl) rfl ?_
       refine RH.pure 16 rfl krX krX krX krX (Wanted.free rfl) (V.pick_false rfl rfl rfl) rfl ?_
       refine RH.val 17 rfl krX krX krX krX (Wanted.free rfl) (V.assign rfl rfl) rfl ?_
       refine RH.done krX ?_
       refine SG.retE (Ret.r1 Tryd.func30 rfl (.tmp rfl)) ?_ ⟨by rw [hz]; unfold extZ; simp [*], rfl⟩
       exact entX
     ·
      refine RH.val 3 rfl krX krX krX krX (Wanted.free rfl) (V.move rfl rfl) rfl ?_
      refine RH.skip 4 rfl krX krX krX krX (Wanted.no rfl rfl rfl rfl rfl) rfl ?_
      refine RH.skip 5 rfl krX krX krX krX (Wanted.no rfl rfl rfl rfl rfl) rfl ?_
      refine RH.skip 6 rfl krX krX krX krX (Wanted.no rfl rfl rfl rfl rfl) rfl ?_
      refine RH.pure 7 rfl krX krX krX krX (Wanted.free rfl) (V.pick_false rfl rfl rfl) rfl ?_
      refine RH.val 8 rfl krX krX krX krX (Wanted.free rfl) (V.move rfl rfl) rfl ?_
      refine RH.skip 9 rfl krX krX krX krX (Wanted.no rfl rfl rfl rfl rfl) rfl ?_
      refine RH.skip 10 rfl krX krX krX krX (Wanted.no rfl rfl rfl rfl rfl) rfl ?_
      refine RH.skip 11 rfl krX krX krX krX (Wanted.no rfl rfl rfl rfl rfl) rfl ?_
      refine RH.skip 12 rfl krX krX krX krX (Wanted.un rfl rfl rfl) rfl ?_
      refine RH.skip 13 rfl krX krX krX krX (Wanted.un rfl rfl rfl) rfl ?_
      refine RH.skip 14 rfl krX krX krX krX (Wanted.un rfl rfl rfl) rfl ?_
      refine RH.skip 15 rfl krX krX krX krX (Wanted.no rfl rfl rfl rfl rfl) rfl ?_
      refine RH.pure 16 rfl krX krX krX krX (Wanted.free rfl) (V.pick_false rfl rfl rfl) rfl ?_
      refine RH.val 17 rfl krX krX krX krX (Wanted.free rfl) (V.assign rfl rfl) rfl ?_
      refine RH.done krX ?_
      refine SG.retE (Ret.r1 Tryd.func30 rfl (.tmp rfl)) ?_ ⟨by rw [hz]; unfold extZ; simp [*], rfl⟩
      exact entX
    ·
     refine RL.nil ?_
     refine SG.cond_false rfl ?_
     refine SG.skip ?_
     refine SG.seq ?_
     obtain ⟨q, rfl⟩ := Int.eq_ofNat_of_zero_le (show 0 ≤ q by omega)
     obtain ⟨n, rfl⟩ := Int.eq_ofNat_of_zero_le (show 0 ≤ n by omega)
     have hb := ext_ok (old := old) (root := root) (p := p) (m := q) (n := n) (by omega) (by omega) (by omega)
     have hl1 : (climbE old p q n true ⟨p.length, false⟩).1.length = 32 := (climbE_len ho h32 _ _ _ _ _ (Nat.le_refl _) (Nat.le_refl _)).1
     have hl2 : (climbE old p q n true ⟨p.length, false⟩).2.1.length = 32 := (climbE_len ho h32 _ _ _ _ _ (Nat.le_refl _) (Nat.le_refl _)).2
     refine SG.region ?_
     refine RL.val (Wanted.free rfl) (V.move rfl rfl) rfl ?_
     refine RL.eff (Wanted.free rfl) (E.call rfl go58 rfl (taker_ok)) rfl ?_
     rintro _ _ ⟨bl, bm, bp, rfl, rfl⟩
     refine RL.val (Wanted.free rfl) (V.move rfl rfl) rfl ?_
     refine RL.val (Wanted.free rfl) (V.extract rfl rfl rfl) rfl ?_
     refine RL.val (Wanted.free rfl) (V.extract rfl rfl rfl) rfl ?_
     refine RL.eff (Wanted.free rfl) (E.alloc rfl ze82) rfl ?_
     rintro _ _ ⟨b11, rfl, rfl⟩
     refine RL.eff (Wanted.free rfl) (E.store1 rfl rfl rfl rfl rfl sz82 pickX rfl) rfl ?_
     rintro _ _ rfl
     refine RL.val (Wanted.free rfl) (V.assign rfl rfl) rfl ?_
     refine RL.nil ?_
     refine SG.seq ?_
     refine SG.region ?_
     refine RL.eff (Wanted.free rfl) (E.alloc rfl ze88) rfl ?_
     rintro _ _ ⟨b13, rfl, rfl⟩
     refine RL.nil ?_
     refine SG.seq ?_
     refine SG.region ?_
     refine RL.val (Wanted.free rfl) (V.makeFunc rfl rfl) rfl ?_
     refine RL.eff (Wanted.free rfl) (E.store1 rfl rfl rfl rfl rfl sz88 pickX rfl) rfl ?_
     rintro _ _ rfl
     refine RL.nil ?_
     refine SG.seq ?_
     refine SG.region ?_
     refine RL.val (Wanted.free rfl) (V.load rfl on88 rfl pickX rfl) rfl ?_
     refine RL.val (Wanted.free rfl) (V.move rfl rfl) rfl ?_
     refine RL.val (Wanted.free rfl) (V.move rfl rfl) rfl ?_
     refine RL.eff (Wanted.free rfl) (E.callC (cap := [ptr b5 0, ptr b11 0, ptr b13 0]) rfl rfl go61 rfl (climbE_all (p := p) ho _ n (Nat.le_refl _) (q := q) (w := true) (t := ⟨p.length, false⟩) (bl := bl) (bm := bm) (bp := bp) (a := a) (m := p.length) (c := c) (by omega) (by omega) (by omega) (Nat.le_refl _) pickX memX (by unfold Tab; repeat (first | exact List.Mem.head _ | assumption | apply List.Mem.tail)) pickX pickX pickX)) rfl ?_
     rintro _ _ ⟨rfl, rfl⟩
     refine RL.val (Wanted.free rfl) (V.move rfl rfl) rfl ?_
     refine RL.val (Wanted.free rfl) (V.extract rfl rfl rfl) rfl ?_
     refine RL.val (Wanted.free rfl) (V.extract rfl rfl rfl) rfl ?_
     refine RL.eff (Wanted.free rfl) (E.alloc rfl ze25) rfl ?_
     rintro _ _ ⟨b14, rfl, rfl⟩
     refine RL.eff (Wanted.free rfl) (E.alloc rfl ze25) rfl ?_
     rintro _ _ ⟨b15, rfl, rfl⟩
     refine RL.eff (Wanted.free rfl) (E.storeWhole rfl rfl rfl (by rw [List.length_map]; exact hl1) sz25 pickX (one8 _) (by first | rfl | (rw [List.length_replicate]))) rfl ?_
     rintro _ _ rfl
     refine RL.eff (Wanted.free rfl) (E.storeWhole rfl rfl rfl (by rw [List.length_map]; exact hl2) sz25 pickX (one8 _) (by first | rfl | (rw [List.length_replicate]))) rfl ?_
     rintro _ _ rfl
     refine RL.nil ?_
     refine SG.seq ?_
     refine SG.region ?_
     refine RL.val (Wanted.free rfl) (V.loadAgg (us := ((climbE old p q n true ⟨p.length, false⟩).1).map v8) rfl ag25 rfl pickX (take8 hl1) (by rw [List.length_map]; exact hl1)) rfl ?_
     refine RL.val (Wanted.free rfl) (V.loadAgg (us := (old).map v8) rfl ag25 rfl pickX (take8 ho) (by rw [List.length_map]; exact ho)) rfl ?_
     refine RL.cmp (Wanted.free rfl) (V.eqlArr rfl ar25 on5 ui5 ce25 eg25 inj8 hl1 ho rfl rfl) rfl (fun h68 => ?_) (fun h68 => ?_)
     ·
      rw [decide_eq_true h68, Bool.true_and] at hb
      refine RL.val (Wanted.free rfl) (V.move rfl rfl) rfl ?_
      refine RL.val (Wanted.yes rfl rfl rfl rfl) (V.loadAgg (us := ((climbE old p q n true ⟨p.length, false⟩).2.1).map v8) rfl ag25 rfl pickX (take8 hl2) (by rw [List.length_map]; exact hl2)) rfl ?_
      refine RL.val (Wanted.yes rfl rfl rfl rfl) (V.loadAgg (us := (root).map v8) rfl ag25 rfl pickX (take8 hr) (by rw [List.length_map]; exact hr)) rfl ?_
      refine RL.cmp (Wanted.yes rfl rfl rfl rfl) (V.eqlArr rfl ar25 on5 ui5 ce25 eg25 inj8 hl2 hr rfl rfl) rfl (fun h72 => ?_) (fun h72 => ?_)
      ·
       rw [decide_eq_true h72, Bool.true_and] at hb
       refine RL.val (Wanted.free rfl) (V.pick_true rfl rfl rfl) rfl ?_
       refine RL.val (Wanted.free rfl) (V.move rfl rfl) rfl ?_
       refine RL.val (Wanted.yes rfl rfl rfl rfl) (V.move rfl rfl) rfl ?_
       refine RL.eff (Wanted.yes rfl rfl rfl rfl) (E.callC (cap := [ptr bl 0, ptr bm 0]) rfl rfl go84 rfl (done_ok pickX)) rfl ?_
       rintro _ _ ⟨rfl, rfl⟩
       refine RL.val (Wanted.free rfl) (V.pick_true rfl rfl rfl) rfl ?_
       refine RL.val (Wanted.free rfl) (V.assign rfl rfl) rfl ?_
       refine RL.nil ?_
       refine SG.retE (Ret.r1 Tryd.func30 rfl (.tmp rfl)) ?_ ⟨by rw [hb], rfl⟩
       exact entX
      ·
       rw [decide_eq_false h72, Bool.false_and] at hb
       refine RL.val (Wanted.free rfl) (V.pick_true rfl rfl rfl) rfl ?_
       refine RL.val (Wanted.free rfl) (V.move rfl rfl) rfl ?_
       refine RL.skip (Wanted.no rfl rfl rfl rfl rfl) rfl ?_
       refine RL.skip (Wanted.no rfl rfl rfl rfl rfl) rfl ?_
       refine RL.val (Wanted.free rfl) (V.pick_false rfl rfl rfl) rfl ?_
       refine RL.val (Wanted.free rfl) (V.assign rfl rfl) rfl ?_
       refine RL.nil ?_
       refine SG.retE (Ret.r1 Tryd.func30 rfl (.tmp rfl)) ?_ ⟨by rw [hb], rfl⟩
       exact entX
     ·
      rw [decide_eq_false h68, Bool.false_and, Bool.false_and] at hb
      refine RL.val (Wanted.free rfl) (V.move rfl rfl) rfl ?_
      refine RL.skip (Wanted.no rfl rfl rfl rfl rfl) rfl ?_
      refine RL.skip (Wanted.no rfl rfl rfl rfl rfl) rfl ?_
      refine RL.skip (Wanted.no rfl rfl rfl rfl rfl) rfl ?_
      refine RL.val (Wanted.free rfl) (V.pick_false rfl rfl rfl) rfl ?_
      refine RL.val (Wanted.free rfl) (V.move rfl rfl) rfl ?_
      refine RL.skip (Wanted.no rfl rfl rfl rfl rfl) rfl ?_
      refine RL.skip (Wanted.no rfl rfl rfl rfl rfl) rfl ?_
      refine RL.val (Wanted.free rfl) (V.pick_false rfl rfl rfl) rfl ?_
      refine RL.val (Wanted.free rfl) (V.assign rfl rfl) rfl ?_
      refine RL.nil ?_
      refine SG.retE (Ret.r1 Tryd.func30 rfl (.tmp rfl)) ?_ ⟨by rw [hb], rfl⟩
      exact entX

end Go.Proofs.YtcbloadpffjkiaaDoor
