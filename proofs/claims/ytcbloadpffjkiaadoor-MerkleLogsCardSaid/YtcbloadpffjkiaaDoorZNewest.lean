/- The newest mark. -/
import Derived.Test.YtcbloadpffjkiaaDoorZMeq
namespace Go.Proofs.YtcbloadpffjkiaaDoor
open Go.Wk Go.Wl Go.Dsk

set_option maxRecDepth 100000 in
set_option maxHeartbeats 1000000 in
theorem lNewest_ok {κ : World} {L : List Assn} {L1 : List Assn} {b db : Nat} {g : Lg} (hg : LgOk g) (hp : Pick (Lgm b db g) L L1) {L2 : List Assn} {D : Dk} {m0 : Nat} (hD : D.ok m0) (hm0 : m0 ≤ 900000) (hd : Pick (Dsk db D) L1 L2) (hon : D.off = false) (hrg : g.f + 2 ≤ D.S.length) :
    Ctr Tryd.prog 75 #[ptr b 0] κ L (fun v M => v = .tuple #[.agg [v64 (nwM D g.f).1, v64 (nwM D g.f).2].toArray, vI (nwE D g.f)] ∧ M = Lgm b db g :: Dsk db D :: L2) := by
 refine Ctr.enter (vs := [ptr b 0]) (m := 60) Tryd.func75 rfl rfl rfl ?_
 refine SG.openLg hp fun da dn dc ra rn rc => ?_
 have hgf0 := hg.f0
 have hgf1 := hg.f1
 have hgn0 := hg.n0
 have hgn1 := hg.n1
 have hgd := hg.d
 have hgr := hg.r
 have hgu0 := hg.u0
 have hgu1 := hg.u1
 have hgs0 := hg.s0
 have hgs1 := hg.s1
 refine SG.ent (Ent.trans (Ent.frame _ (Ent.frame _ (Ent.frame _ hd))) (Ent.refl _)) ?_
 refine SG.seq ?_
 refine SG.region ?_
 refine RL.eff (Wanted.free rfl) (E.alloc rfl ze101) rfl ?_
 rintro _ _ ⟨b2, rfl, rfl⟩
 refine RL.val (Wanted.free rfl) (V.assign rfl rfl) rfl ?_
 refine RL.nil ?_
 refine SG.seq ?_
 refine SG.region ?_
 refine RL.val (Wanted.free rfl) (V.buildS [] rfl bs101 (by exact trivial) rfl) rfl ?_
 refine RL.eff (Wanted.free rfl) (E.alloc rfl ze101) rfl ?_
 rintro _ _ ⟨b4, rfl, rfl⟩
 refine RL.eff (Wanted.free rfl) (E.storeWhole rfl rfl rfl (by rfl) sz101 pickX (by first | (simp [Value.oneCell']; done) | (simp [setAt, Value.oneCell']; done)) (by rfl)) rfl ?_
 rintro _ _ rfl
 refine RL.nil ?_
 refine SG.seq ?_
 refine SG.seq ?_
 refine SG.region ?_
 refine RL.val (Wanted.free rfl) (V.move rfl rfl) rfl ?_
 refine RL.nil ?_
 refine SG.block ?_
 refine SG.weaken (SG.loop2 (fun m9 al M => ∃ i : Nat, i ≤ 2 ∧ m9 = 2 - i ∧ al = [(0, ptr b 0), (2, ptr b2 0), (4, ptr b4 0), (10, vI i)] ∧ M = Blk b4 101 [v64 (nwI D g.f i).1, v64 (nwI D g.f i).2] :: Blk b2 101 [v64 0, v64 0] :: Blk b 103 (lgc db g (.slice da dn dc) (.slice ra rn rc)) :: Buf R8 5 da dn dc g.data :: Buf (Rep.slice R8) 62 ra rn rc g.recs :: Dsk db D :: L2) (m0 := _) ⟨0, by omega, rfl, rfl, rfl⟩ ?_) ?_ ?_
 rotate_left
 ·
  repeat (first | exact EnvLe.nil _ | refine EnvLe.cons rfl ?_)
 ·
  exact entX
 rintro _ _ _ ⟨i, hi, rfl, rfl, rfl⟩ ih0
 refine SG.seq ?_
 refine SG.region ?_
 refine RL.cmp (Wanted.free rfl) (V.bin rfl rfl rfl B.lss) rfl (fun h7 => ?_) (fun h7 => ?_)
 ·
  refine RL.nil ?_
  refine SG.seq ?_
  refine SG.cond_true rfl ?_
  refine SG.skip ?_
  refine SG.seq ?_
  refine SG.block ?_
  refine SG.seq ?_
  refine SG.region ?_
  refine RL.val (Wanted.free rfl) (V.move rfl rfl) rfl ?_
  refine RL.val (Wanted.free rfl) (V.assign rfl rfl) rfl ?_
  refine RL.nil ?_
  refine SG.seq ?_
  have hr0 := read_on (D := D) (k := g.f + i) (by omega) (by omega) hon
  have hX0 := nowI_len hD (k := g.f + i) (by omega) (by omega)
  have hnw : nwI D g.f (i + 1) = betU (nwI D g.f i) (nowI D (g.f + i)) := rfl
  have hr1 : (D.read (g.f + i)).1 = nowI D (g.f + i) := by rw [hr0]
  have hr2 : (D.read (g.f + i)).2 = 0 := by rw [hr0]
  refine SG.drawL 16 16 wide rfl rfl ?_
  refine RH.val 0 rfl krX krX krX krX (Wanted.free rfl) (V.move rfl rfl) rfl ?_
  refine RH.val 1 rfl krX krX krX krX (Wanted.free rfl) (V.nilCheck rfl rfl) rfl ?_
  refine RH.val 2 rfl krX krX krX krX (Wanted.free rfl) (V.fieldAddr rfl rfl fo103_0) rfl ?_
  refine RH.val 3 rfl krX krX krX krX (Wanted.free rfl) (V.load rfl on55 rfl pickX rfl) rfl ?_
  refine RH.val 4 rfl krX krX krX krX (Wanted.free rfl) (V.move rfl rfl) rfl ?_
  refine RH.val 5 rfl krX krX krX krX (Wanted.free rfl) (V.nilCheck rfl rfl) rfl ?_
  refine RH.val 6 rfl krX krX krX krX (Wanted.free rfl) (V.fieldAddr rfl rfl fo103_1) rfl ?_
  refine RH.val 7 rfl krX krX krX krX (Wanted.free rfl) (V.load rfl on3 rfl pickX rfl) rfl ?_
  refine RH.val 8 rfl krX krX krX krX (Wanted.free rfl) (V.move rfl rfl) rfl ?_
  refine RH.val 9 rfl krX krX krX krX (Wanted.free rfl) (V.bin rfl rfl rfl (B.addI (by omega) (by omega))) rfl ?_
  refine RH.one (i := 10) krX ?_
  refine RHone.eff rfl (Wanted.free rfl) (E.call rfl go76 rfl (dRead_ok hD (b := db) pickX (g.f + i) (by omega))) rfl ?_
  rintro _ _ ⟨a24, m24, c24, rfl, rfl⟩
  refine ⟨.inr entX, ?_⟩
  rw [hr1, hr2]
  refine RH.publish (T := R8) (a := a24) Pick.here ?_
  refine RH.val 11 rfl krX krX krX krX (Wanted.free rfl) (V.move rfl rfl) rfl ?_
  refine RH.val 12 rfl krX krX krX krX (Wanted.free rfl) (V.extract rfl rfl rfl) rfl ?_
  refine RH.val 13 rfl krX krX krX krX (Wanted.free rfl) (V.extract rfl rfl rfl) rfl ?_
  refine RH.val 14 rfl krX krX krX krX (Wanted.free rfl) (V.assign rfl rfl) rfl ?_
  refine RH.val 15 rfl krX krX krX krX (Wanted.free rfl) (V.assign rfl rfl) rfl ?_
  refine RH.done krX ?_
  refine SG.seq ?_
  refine SG.seq ?_
  refine SG.region ?_
  refine RL.val (Wanted.free rfl) (V.move rfl rfl) rfl ?_
  refine RL.cmpF (Wanted.free rfl) (V.bin rfl rfl rfl B.neq) rfl (by omega) ?_
  refine RL.nil ?_
  refine SG.cond_false rfl ?_
  refine SG.skip ?_
  refine SG.seq ?_
  generalize nowI D (g.f + i) = X at hX0 hnw ⊢
  have hX := hX0
  refine SG.sl (T := R8) (a := a24) (l := X) memX fun hm24 hc24 _ => ?_
  obtain rfl : m24 = 64 := by omega
  refine SG.cut (lo := 0) (hi := 8) (l' := (X.drop 0).take (8 - 0)) (a := a24) (T := R8) memX (by decide) (by decide) rfl ?_
  refine SG.cut (lo := 8) (hi := 16) (l' := (X.drop 8).take (16 - 8)) (a := a24) (T := R8) memX (by decide) (by decide) rfl ?_
  refine SG.cut (lo := 16) (hi := 24) (l' := (X.drop 16).take (24 - 16)) (a := a24) (T := R8) memX (by decide) (by decide) rfl ?_
  refine SG.cut (lo := 24) (hi := 32) (l' := (X.drop 24).take (32 - 24)) (a := a24) (T := R8) memX (by decide) (by decide) rfl ?_
  refine SG.drawL 9 8 wide rfl rfl ?_
  refine RH.val 0 rfl krX krX krX krX (Wanted.free rfl) (V.move rfl rfl) rfl ?_
  refine RH.val 1 rfl krX krX krX krX (Wanted.free rfl) (V.slice (T := R8) (lo := 0) (hi := 8) rfl el62.slice rfl rfl ⟨_, _, rfl, (by first | rfl | omega)⟩ (by decide) (by omega)) rfl ?_
  refine RH.val 3 rfl krX krX krX krX (Wanted.free rfl) (V.move rfl rfl) rfl ?_
  refine RH.val 4 rfl krX krX krX krX (Wanted.free rfl) (V.slice (T := R8) (lo := 8) (hi := 16) rfl el62.slice rfl ⟨_, _, rfl, (by first | rfl | omega)⟩ ⟨_, _, rfl, (by first | rfl | omega)⟩ (by decide) (by omega)) rfl ?_
  refine RH.two (i := 2) (j := 7) krX ?_ ?_
  ·
   refine RHone.eff rfl (Wanted.free rfl) (E.call rfl go77 rfl (value_okU (l := (X.drop 0).take (8 - 0)) memX (by rw [List.length_take, List.length_drop]; omega) (by rw [List.length_take, List.length_drop]; omega))) rfl ?_
   rintro _ _ ⟨rfl, rfl⟩
   refine ⟨.inr entX, ?_⟩
   rw [show UInt64.ofNat (lev ((X.drop 0).take (8 - 0))) = (rdU (c1 X)).1 from by rw [(rdU_parts hX).1]]
   refine RH.two (i := 5) (j := 7) krX ?_ ?_
   ·
    refine RHone.eff rfl (Wanted.free rfl) (E.call rfl go77 rfl (value_okU (l := (X.drop 8).take (16 - 8)) memX (by rw [List.length_take, List.length_drop]; omega) (by rw [List.length_take, List.length_drop]; omega))) rfl ?_
    rintro _ _ ⟨rfl, rfl⟩
    refine ⟨.inr entX, ?_⟩
    rw [show UInt64.ofNat (lev ((X.drop 8).take (16 - 8))) = (rdU (c1 X)).2 from by rw [(rdU_parts hX).1]]
    refine RH.val 6 rfl krX krX krX krX (Wanted.free rfl) (V.buildS [(0, _), (1, _)] rfl bs101 (by exact ⟨rfl, ⟨_, rfl, rfl⟩, ⟨rfl, ⟨_, rfl, rfl⟩, trivial⟩⟩) rfl) rfl ?_
    refine RH.one (i := 7) krX ?_
    refine RHone.eff rfl (Wanted.free rfl) (E.alloc rfl ze101) rfl ?_
    rintro _ _ ⟨b8, rfl, rfl⟩
    refine ⟨.inr entX, ?_⟩
    refine RH.one (i := 8) krX ?_
    refine RHone.eff rfl (Wanted.free rfl) (E.storeWhole rfl rfl rfl (by rfl) sz101 pickX (by first | (simp [Value.oneCell']; done) | (simp [setAt, Value.oneCell']; done)) (by rfl)) rfl ?_
    rintro _ _ rfl
    refine ⟨.inl krX, ?_⟩
    refine RH.done krX ?_
    refine SG.seq ?_
    refine SG.drawL 16 16 wide rfl rfl ?_
    refine RH.val 0 rfl krX krX krX krX (Wanted.free rfl) (V.loadAgg (us := [v64 (rdU (c1 X)).1, v64 (rdU (c1 X)).2]) rfl ag101 rfl pickX rfl rfl) rfl ?_
    refine RH.val 1 rfl krX krX krX krX (Wanted.free rfl) (V.move rfl rfl) rfl ?_
    refine RH.val 2 rfl krX krX krX krX (Wanted.free rfl) (V.slice (T := R8) (lo := 16) (hi := 24) rfl el62.slice rfl ⟨_, _, rfl, (by first | rfl | omega)⟩ ⟨_, _, rfl, (by first | rfl | omega)⟩ (by decide) (by omega)) rfl ?_
    refine RH.val 4 rfl krX krX krX krX (Wanted.free rfl) (V.move rfl rfl) rfl ?_
    refine RH.val 5 rfl krX krX krX krX (Wanted.free rfl) (V.slice (T := R8) (lo := 24) (hi := 32) rfl el62.slice rfl ⟨_, _, rfl, (by first | rfl | omega)⟩ ⟨_, _, rfl, (by first | rfl | omega)⟩ (by decide) (by omega)) rfl ?_
    refine RH.one (i := 3) krX ?_
    refine RHone.eff rfl (Wanted.free rfl) (E.call rfl go77 rfl (value_okU (l := (X.drop 16).take (24 - 16)) memX (by rw [List.length_take, List.length_drop]; omega) (by rw [List.length_take, List.length_drop]; omega))) rfl ?_
    rintro _ _ ⟨rfl, rfl⟩
    refine ⟨.inr entX, ?_⟩
    rw [show UInt64.ofNat (lev ((X.drop 16).take (24 - 16))) = (rdU (c2 X)).1 from by rw [(rdU_parts hX).2]]
    refine RH.one (i := 6) krX ?_
    refine RHone.eff rfl (Wanted.free rfl) (E.call rfl go77 rfl (value_okU (l := (X.drop 24).take (32 - 24)) memX (by rw [List.length_take, List.length_drop]; omega) (by rw [List.length_take, List.length_drop]; omega))) rfl ?_
    rintro _ _ ⟨rfl, rfl⟩
    refine ⟨.inr entX, ?_⟩
    rw [show UInt64.ofNat (lev ((X.drop 24).take (32 - 24))) = (rdU (c2 X)).2 from by rw [(rdU_parts hX).2]]
    refine RH.val 7 rfl krX krX krX krX (Wanted.free rfl) (V.buildS [(0, _), (1, _)] rfl bs101 (by exact ⟨rfl, ⟨_, rfl, rfl⟩, ⟨rfl, ⟨_, rfl, rfl⟩, trivial⟩⟩) rfl) rfl ?_
    refine RH.cmp 8 rfl krX krX krX krX (Wanted.free rfl) (V.eqlMk (s := rdU (c1 X)) (s' := rdU (c2 X)) rfl rfl rfl) rfl (fun h44 => ?_) (fun h44 => ?_)
    ·
     have he1 := h44
     refine RH.val 9 rfl krX krX krX krX (Wanted.free rfl) (V.move rfl rfl) rfl ?_
     refine RH.val 10 rfl krX krX krX krX (Wanted.yes rfl rfl rfl rfl) (V.fieldAddr rfl rfl fo101_0) rfl ?_
     refine RH.val 11 rfl krX krX krX krX (Wanted.yes rfl rfl rfl rfl) (V.load rfl on99 rfl pickX rfl) rfl ?_
     refine RH.val 12 rfl krX krX krX krX (Wanted.yes rfl rfl rfl rfl) (V.fieldAddr rfl rfl fo101_0) rfl ?_
     refine RH.val 13 rfl krX krX krX krX (Wanted.yes rfl rfl rfl rfl) (V.load rfl on99 rfl pickX rfl) rfl ?_
     refine RH.cmp 14 rfl krX krX krX krX (Wanted.yes rfl rfl rfl rfl) (V.bin rfl rfl rfl B.gtr) rfl (fun h50 => ?_) (fun h50 => ?_)
     ·
      have hbt : betU (nwI D g.f i) X = rdU (c1 X) := if_pos ⟨he1, UInt64.lt_iff_toNat_lt.2 (by omega)⟩
      refine RH.pure 15 rfl krX krX krX krX (Wanted.free rfl) (V.pick_true rfl rfl rfl) rfl ?_
      refine RH.done krX ?_
      refine SG.cond_true rfl ?_
      refine SG.region ?_
      refine RL.val (Wanted.free rfl) (V.loadAgg (us := [v64 (rdU (c1 X)).1, v64 (rdU (c1 X)).2]) rfl ag101 rfl pickX rfl rfl) rfl ?_
      refine RL.eff (Wanted.free rfl) (E.storeWhole rfl rfl rfl (by rfl) sz101 pickX (by first | (simp [Value.oneCell']; done) | (simp [setAt, Value.oneCell']; done)) (by rfl)) rfl ?_
      rintro _ _ rfl
      refine RL.nil ?_
      refine SG.inBlock ?_
      refine SG.region ?_
      refine RL.val (Wanted.free rfl) (V.bin rfl rfl rfl (B.addI (by omega) (by omega))) rfl ?_
      refine RL.val (Wanted.free rfl) (V.move rfl rfl) rfl ?_
      refine RL.nil ?_
      refine SG.weaken (ih0 _ _ _ ?_ ⟨i + 1, by omega, rfl, rfl, rfl⟩) ?_ ?_
      ·
       omega
      ·
       repeat (first | exact EnvLe.nil _ | refine EnvLe.cons rfl ?_)
      ·
       rw [hnw, hbt]
       exact entX
     ·
      have hbt : betU (nwI D g.f i) X = nwI D g.f i := if_neg fun h => by have := UInt64.lt_iff_toNat_lt.1 h.2; omega
      refine RH.pure 15 rfl krX krX krX krX (Wanted.free rfl) (V.pick_true rfl rfl rfl) rfl ?_
      refine RH.done krX ?_
      refine SG.cond_false rfl ?_
      refine SG.skip ?_
      refine SG.inBlock ?_
      refine SG.region ?_
      refine RL.val (Wanted.free rfl) (V.bin rfl rfl rfl (B.addI (by omega) (by omega))) rfl ?_
      refine RL.val (Wanted.free rfl) (V.move rfl rfl) rfl ?_
      refine RL.nil ?_
      refine SG.weaken (ih0 _ _ _ ?_ ⟨i + 1, by omega, rfl, rfl, rfl⟩) ?_ ?_
      ·
       omega
      ·
       repeat (first | exact EnvLe.nil _ | refine EnvLe.cons rfl ?_)
      ·
       rw [hnw, hbt]
       exact entX
    ·
     have he1 := h44
     have hbt : betU (nwI D g.f i) X = nwI D g.f i := if_neg fun h => he1 h.1
     refine RH.val 9 rfl krX krX krX krX (Wanted.free rfl) (V.move rfl rfl) rfl ?_
     refine RH.skip 10 rfl krX krX krX krX (Wanted.no rfl rfl rfl rfl rfl) rfl ?_
     refine RH.skip 11 rfl krX krX krX krX (Wanted.no rfl rfl rfl rfl rfl) rfl ?_
     refine RH.skip 12 rfl krX krX krX krX (Wanted.no rfl rfl rfl rfl rfl) rfl ?_
     refine RH.skip 13 rfl krX krX krX krX (Wanted.no rfl rfl rfl rfl rfl) rfl ?_
     refine RH.skip 14 rfl krX krX krX krX (Wanted.no rfl rfl rfl rfl rfl) rfl ?_
     refine RH.pure 15 rfl krX krX krX krX (Wanted.free rfl) (V.pick_false rfl rfl rfl) rfl ?_
     refine RH.done krX ?_
     refine SG.cond_false rfl ?_
     refine SG.skip ?_
     refine SG.inBlock ?_
     refine SG.region ?_
     refine RL.val (Wanted.free rfl) (V.bin rfl rfl rfl (B.addI (by omega) (by omega))) rfl ?_
     refine RL.val (Wanted.free rfl) (V.move rfl rfl) rfl ?_
     refine RL.nil ?_
     refine SG.weaken (ih0 _ _ _ ?_ ⟨i + 1, by omega, rfl, rfl, rfl⟩) ?_ ?_
     ·
      omega
     ·
      repeat (first | exact EnvLe.nil _ | refine EnvLe.cons rfl ?_)
     ·
      rw [hnw, hbt]
      exact entX
   ·
    refine RHone.eff rfl (Wanted.free rfl) (E.alloc rfl ze101) rfl ?_
    rintro _ _ ⟨b8, rfl, rfl⟩
    refine ⟨.inr entX, ?_⟩
    refine RH.one (i := 5) krX ?_
    refine RHone.eff rfl (Wanted.free rfl) (E.call rfl go77 rfl (value_okU (l := (X.drop 8).take (16 - 8)) memX (by rw [List.length_take, List.length_drop]; omega) (by rw [List.length_take, List.length_drop]; omega))) rfl ?_
    rintro _ _ ⟨rfl, rfl⟩
    refine ⟨.inr entX, ?_⟩
    rw [show UInt64.ofNat (lev ((X.drop 8).take (16 - 8))) = (rdU (c1 X)).2 from by rw [(rdU_parts hX).1]]
    refine RH.val 6 rfl krX krX krX krX (Wanted.free rfl) (V.buildS [(0, _), (1, _)] rfl bs101 (by exact ⟨rfl, ⟨_, rfl, rfl⟩, ⟨rfl, ⟨_, rfl, rfl⟩, trivial⟩⟩) rfl) rfl ?_
    refine RH.one (i := 8) krX ?_
    refine RHone.eff rfl (Wanted.free rfl) (E.storeWhole rfl rfl rfl (by rfl) sz101 pickX (by first | (simp [Value.oneCell']; done) | (simp [setAt, Value.oneCell']; done)) (by rfl)) rfl ?_
    rintro _ _ rfl
    refine ⟨.inl krX, ?_⟩
    refine RH.done krX ?_
    refine SG.seq ?_
    refine SG.drawL 16 16 wide rfl rfl ?_
    refine RH.val 0 rfl krX krX krX krX (Wanted.free rfl) (V.loadAgg (us := [v64 (rdU (c1 X)).1, v64 (rdU (c1 X)).2]) rfl ag101 rfl pickX rfl rfl) rfl ?_
    refine RH.val 1 rfl krX krX krX krX (Wanted.free rfl) (V.move rfl rfl) rfl ?_
    refine RH.val 2 rfl krX krX krX krX (Wanted.free rfl) (V.slice (T := R8) (lo := 16) (hi := 24) rfl el62.slice rfl ⟨_, _, rfl, (by first | rfl | omega)⟩ ⟨_, _, rfl, (by first | rfl | omega)⟩ (by decide) (by omega)) rfl ?_
    refine RH.val 4 rfl krX krX krX krX (Wanted.free rfl) (V.move rfl rfl) rfl ?_
    refine RH.val 5 rfl krX krX krX krX (Wanted.free rfl) (V.slice (T := R8) (lo := 24) (hi := 32) rfl el62.slice rfl ⟨_, _, rfl, (by first | rfl | omega)⟩ ⟨_, _, rfl, (by first | rfl | omega)⟩ (by decide) (by omega)) rfl ?_
    refine RH.one (i := 3) krX ?_
    refine RHone.eff rfl (Wanted.free rfl) (E.call rfl go77 rfl (value_okU (l := (X.drop 16).take (24 - 16)) memX (by rw [List.length_take, List.length_drop]; omega) (by rw [List.length_take, List.length_drop]; omega))) rfl ?_
    rintro _ _ ⟨rfl, rfl⟩
    refine ⟨.inr entX, ?_⟩
    rw [show UInt64.ofNat (lev ((X.drop 16).take (24 - 16))) = (rdU (c2 X)).1 from by rw [(rdU_parts hX).2]]
    refine RH.one (i := 6) krX ?_
    refine RHone.eff rfl (Wanted.free rfl) (E.call rfl go77 rfl (value_okU (l := (X.drop 24).take (32 - 24)) memX (by rw [List.length_take, List.length_drop]; omega) (by rw [List.length_take, List.length_drop]; omega))) rfl ?_
    rintro _ _ ⟨rfl, rfl⟩
    refine ⟨.inr entX, ?_⟩
    rw [show UInt64.ofNat (lev ((X.drop 24).take (32 - 24))) = (rdU (c2 X)).2 from by rw [(rdU_parts hX).2]]
    refine RH.val 7 rfl krX krX krX krX (Wanted.free rfl) (V.buildS [(0, _), (1, _)] rfl bs101 (by exact ⟨rfl, ⟨_, rfl, rfl⟩, ⟨rfl, ⟨_, rfl, rfl⟩, trivial⟩⟩) rfl) rfl ?_
    refine RH.cmp 8 rfl krX krX krX krX (Wanted.free rfl) (V.eqlMk (s := rdU (c1 X)) (s' := rdU (c2 X)) rfl rfl rfl) rfl (fun h72 => ?_) (fun h72 => ?_)
    ·
     have he1 := h72
     refine RH.val 9 rfl krX krX krX krX (Wanted.free rfl) (V.move rfl rfl) rfl ?_
     refine RH.val 10 rfl krX krX krX krX (Wanted.yes rfl rfl rfl rfl) (V.fieldAddr rfl rfl fo101_0) rfl ?_
     refine RH.val 11 rfl krX krX krX krX (Wanted.yes rfl rfl rfl rfl) (V.load rfl on99 rfl pickX rfl) rfl ?_
     refine RH.val 12 rfl krX krX krX krX (Wanted.yes rfl rfl rfl rfl) (V.fieldAddr rfl rfl fo101_0) rfl ?_
     refine RH.val 13 rfl krX krX krX krX (Wanted.yes rfl rfl rfl rfl) (V.load rfl on99 rfl pickX rfl) rfl ?_
     refine RH.cmp 14 rfl krX krX krX krX (Wanted.yes rfl rfl rfl rfl) (V.bin rfl rfl rfl B.gtr) rfl (fun h78 => ?_) (fun h78 => ?_)
     ·
      have hbt : betU (nwI D g.f i) X = rdU (c1 X) := if_pos ⟨he1, UInt64.lt_iff_toNat_lt.2 (by omega)⟩
      refine RH.pure 15 rfl krX krX krX krX (Wanted.free rfl) (V.pick_true rfl rfl rfl) rfl ?_
      refine RH.done krX ?_
      refine SG.cond_true rfl ?_
      refine SG.region ?_
      refine RL.val (Wanted.free rfl) (V.loadAgg (us := [v64 (rdU (c1 X)).1, v64 (rdU (c1 X)).2]) rfl ag101 rfl pickX rfl rfl) rfl ?_
      refine RL.eff (Wanted.free rfl) (E.storeWhole rfl rfl rfl (by rfl) sz101 pickX (by first | (simp [Value.oneCell']; done) | (simp [setAt, Value.oneCell']; done)) (by rfl)) rfl ?_
      rintro _ _ rfl
      refine RL.nil ?_
      refine SG.inBlock ?_
      refine SG.region ?_
      refine RL.val (Wanted.free rfl) (V.bin rfl rfl rfl (B.addI (by omega) (by omega))) rfl ?_
      refine RL.val (Wanted.free rfl) (V.move rfl rfl) rfl ?_
      refine RL.nil ?_
      refine SG.weaken (ih0 _ _ _ ?_ ⟨i + 1, by omega, rfl, rfl, rfl⟩) ?_ ?_
      ·
       omega
      ·
       repeat (first | exact EnvLe.nil _ | refine EnvLe.cons rfl ?_)
      ·
       rw [hnw, hbt]
       exact entX
     ·
      have hbt : betU (nwI D g.f i) X = nwI D g.f i := if_neg fun h => by have := UInt64.lt_iff_toNat_lt.1 h.2; omega
      refine RH.pure 15 rfl krX krX krX krX (Wanted.free rfl) (V.pick_true rfl rfl rfl) rfl ?_
      refine RH.done krX ?_
      refine SG.cond_false rfl ?_
      refine SG.skip ?_
      refine SG.inBlock ?_
      refine SG.region ?_
      refine RL.val (Wanted.free rfl) (V.bin rfl rfl rfl (B.addI (by omega) (by omega))) rfl ?_
      refine RL.val (Wanted.free rfl) (V.move rfl rfl) rfl ?_
      refine RL.nil ?_
      refine SG.weaken (ih0 _ _ _ ?_ ⟨i + 1, by omega, rfl, rfl, rfl⟩) ?_ ?_
      ·
       omega
      ·
       repeat (first | exact EnvLe.nil _ | refine EnvLe.cons rfl ?_)
      ·
       rw [hnw, hbt]
       exact entX
    ·
     have he1 := h72
     have hbt : betU (nwI D g.f i) X = nwI D g.f i := if_neg fun h => he1 h.1
     refine RH.val 9 rfl krX krX krX krX (Wanted.free rfl) (V.move rfl rfl) rfl ?_
     refine RH.skip 10 rfl krX krX krX krX (Wanted.no rfl rfl rfl rfl rfl) rfl ?_
     refine RH.skip 11 rfl krX krX krX krX (Wanted.no rfl rfl rfl rfl rfl) rfl ?_
     refine RH.skip 12 rfl krX krX krX krX (Wanted.no rfl rfl rfl rfl rfl) rfl ?_
     refine RH.skip 13 rfl krX krX krX krX (Wanted.no rfl rfl rfl rfl rfl) rfl ?_
     refine RH.skip 14 rfl krX krX krX krX (Wanted.no rfl rfl rfl rfl rfl) rfl ?_
     refine RH.pure 15 rfl krX krX krX krX (Wanted.free rfl) (V.pick_false rfl rfl rfl) rfl ?_
     refine RH.done krX ?_
     refine SG.cond_false rfl ?_
     refine SG.skip ?_
     refine SG.inBlock ?_
     refine SG.region ?_
     refine RL.val (Wanted.free rfl) (V.bin rfl rfl rfl (B.addI (by omega) (by omega))) rfl ?_
     refine RL.val (Wanted.free rfl) (V.move rfl rfl) rfl ?_
     refine RL.nil ?_
     refine SG.weaken (ih0 _ _ _ ?_ ⟨i + 1, by omega, rfl, rfl, rfl⟩) ?_ ?_
     ·
      omega
     ·
      repeat (first | exact EnvLe.nil _ | refine EnvLe.cons rfl ?_)
     ·
      rw [hnw, hbt]
      exact entX
  ·
   refine RHone.eff rfl (Wanted.free rfl) (E.alloc rfl ze101) rfl ?_
   rintro _ _ ⟨b8, rfl, rfl⟩
   refine ⟨.inr entX, ?_⟩
   refine RH.one (i := 2) krX ?_
   refine RHone.eff rfl (Wanted.free rfl) (E.call rfl go77 rfl (value_okU (l := (X.drop 0).take (8 - 0)) memX (by rw [List.length_take, List.length_drop]; omega) (by rw [List.length_take, List.length_drop]; omega))) rfl ?_
   rintro _ _ ⟨rfl, rfl⟩
   refine ⟨.inr entX, ?_⟩
   rw [show UInt64.ofNat (lev ((X.drop 0).take (8 - 0))) = (rdU (c1 X)).1 from by rw [(rdU_parts hX).1]]
   refine RH.one (i := 5) krX ?_
   refine RHone.eff rfl (Wanted.free rfl) (E.call rfl go77 rfl (value_okU (l := (X.drop 8).take (16 - 8)) memX (by rw [List.length_take, List.length_drop]; omega) (by rw [List.length_take, List.length_drop]; omega))) rfl ?_
   rintro _ _ ⟨rfl, rfl⟩
   refine ⟨.inr entX, ?_⟩
   rw [show UInt64.ofNat (lev ((X.drop 8).take (16 - 8))) = (rdU (c1 X)).2 from by rw [(rdU_parts hX).1]]
   refine RH.val 6 rfl krX krX krX krX (Wanted.free rfl) (V.buildS [(0, _), (1, _)] rfl bs101 (by exact ⟨rfl, ⟨_, rfl, rfl⟩, ⟨rfl, ⟨_, rfl, rfl⟩, trivial⟩⟩) rfl) rfl ?_
   refine RH.one (i := 8) krX ?_
   refine RHone.eff rfl (Wanted.free rfl) (E.storeWhole rfl rfl rfl (by rfl) sz101 pickX (by first | (simp [Value.oneCell']; done) | (simp [setAt, Value.oneCell']; done)) (by rfl)) rfl ?_
   rintro _ _ rfl
   refine ⟨.inl krX, ?_⟩
   refine RH.done krX ?_
   refine SG.seq ?_
   refine SG.drawL 16 16 wide rfl rfl ?_
   refine RH.val 0 rfl krX krX krX krX (Wanted.free rfl) (V.loadAgg (us := [v64 (rdU (c1 X)).1, v64 (rdU (c1 X)).2]) rfl ag101 rfl pickX rfl rfl) rfl ?_
   refine RH.val 1 rfl krX krX krX krX (Wanted.free rfl) (V.move rfl rfl) rfl ?_
   refine RH.val 2 rfl krX krX krX krX (Wanted.free rfl) (V.slice (T := R8) (lo := 16) (hi := 24) rfl el62.slice rfl ⟨_, _, rfl, (by first | rfl | omega)⟩ ⟨_, _, rfl, (by first | rfl | omega)⟩ (by decide) (by omega)) rfl ?_
   refine RH.val 4 rfl krX krX krX krX (Wanted.free rfl) (V.move rfl rfl) rfl ?_
   refine RH.val 5 rfl krX krX krX krX (Wanted.free rfl) (V.slice (T := R8) (lo := 24) (hi := 32) rfl el62.slice rfl ⟨_, _, rfl, (by first | rfl | omega)⟩ ⟨_, _, rfl, (by first | rfl | omega)⟩ (by decide) (by omega)) rfl ?_
   refine RH.one (i := 3) krX ?_
   refine RHone.eff rfl (Wanted.free rfl) (E.call rfl go77 rfl (value_okU (l := (X.drop 16).take (24 - 16)) memX (by rw [List.length_take, List.length_drop]; omega) (by rw [List.length_take, List.length_drop]; omega))) rfl ?_
   rintro _ _ ⟨rfl, rfl⟩
   refine ⟨.inr entX, ?_⟩
   rw [show UInt64.ofNat (lev ((X.drop 16).take (24 - 16))) = (rdU (c2 X)).1 from by rw [(rdU_parts hX).2]]
   refine RH.one (i := 6) krX ?_
   refine RHone.eff rfl (Wanted.free rfl) (E.call rfl go77 rfl (value_okU (l := (X.drop 24).take (32 - 24)) memX (by rw [List.length_take, List.length_drop]; omega) (by rw [List.length_take, List.length_drop]; omega))) rfl ?_
   rintro _ _ ⟨rfl, rfl⟩
   refine ⟨.inr entX, ?_⟩
   rw [show UInt64.ofNat (lev ((X.drop 24).take (32 - 24))) = (rdU (c2 X)).2 from by rw [(rdU_parts hX).2]]
   refine RH.val 7 rfl krX krX krX krX (Wanted.free rfl) (V.buildS [(0, _), (1, _)] rfl bs101 (by exact ⟨rfl, ⟨_, rfl, rfl⟩, ⟨rfl, ⟨_, rfl, rfl⟩, trivial⟩⟩) rfl) rfl ?_
   refine RH.cmp 8 rfl krX krX krX krX (Wanted.free rfl) (V.eqlMk (s := rdU (c1 X)) (s' := rdU (c2 X)) rfl rfl rfl) rfl (fun h101 => ?_) (fun h101 => ?_)
   ·
    have he1 := h101
    refine RH.val 9 rfl krX krX krX krX (Wanted.free rfl) (V.move rfl rfl) rfl ?_
    refine RH.val 10 rfl krX krX krX krX (Wanted.yes rfl rfl rfl rfl) (V.fieldAddr rfl rfl fo101_0) rfl ?_
    refine RH.val 11 rfl krX krX krX krX (Wanted.yes rfl rfl rfl rfl) (V.load rfl on99 rfl pickX rfl) rfl ?_
    refine RH.val 12 rfl krX krX krX krX (Wanted.yes rfl rfl rfl rfl) (V.fieldAddr rfl rfl fo101_0) rfl ?_
    refine RH.val 13 rfl krX krX krX krX (Wanted.yes rfl rfl rfl rfl) (V.load rfl on99 rfl pickX rfl) rfl ?_
    refine RH.cmp 14 rfl krX krX krX krX (Wanted.yes rfl rfl rfl rfl) (V.bin rfl rfl rfl B.gtr) rfl (fun h107 => ?_) (fun h107 => ?_)
    ·
     have hbt : betU (nwI D g.f i) X = rdU (c1 X) := if_pos ⟨he1, UInt64.lt_iff_toNat_lt.2 (by omega)⟩
     refine RH.pure 15 rfl krX krX krX krX (Wanted.free rfl) (V.pick_true rfl rfl rfl) rfl ?_
     refine RH.done krX ?_
     refine SG.cond_true rfl ?_
     refine SG.region ?_
     refine RL.val (Wanted.free rfl) (V.loadAgg (us := [v64 (rdU (c1 X)).1, v64 (rdU (c1 X)).2]) rfl ag101 rfl pickX rfl rfl) rfl ?_
     refine RL.eff (Wanted.free rfl) (E.storeWhole rfl rfl rfl (by rfl) sz101 pickX (by first | (simp [Value.oneCell']; done) | (simp [setAt, Value.oneCell']; done)) (by rfl)) rfl ?_
     rintro _ _ rfl
     refine RL.nil ?_
     refine SG.inBlock ?_
     refine SG.region ?_
     refine RL.val (Wanted.free rfl) (V.bin rfl rfl rfl (B.addI (by omega) (by omega))) rfl ?_
     refine RL.val (Wanted.free rfl) (V.move rfl rfl) rfl ?_
     refine RL.nil ?_
     refine SG.weaken (ih0 _ _ _ ?_ ⟨i + 1, by omega, rfl, rfl, rfl⟩) ?_ ?_
     ·
      omega
     ·
      repeat (first | exact EnvLe.nil _ | refine EnvLe.cons rfl ?_)
     ·
      rw [hnw, hbt]
      exact entX
    ·
     have hbt : betU (nwI D g.f i) X = nwI D g.f i := if_neg fun h => by have := UInt64.lt_iff_toNat_lt.1 h.2; omega
     refine RH.pure 15 rfl krX krX krX krX (Wanted.free rfl) (V.pick_true rfl rfl rfl) rfl ?_
     refine RH.done krX ?_
     refine SG.cond_false rfl ?_
     refine SG.skip ?_
     refine SG.inBlock ?_
     refine SG.region ?_
     refine RL.val (Wanted.free rfl) (V.bin rfl rfl rfl (B.addI (by omega) (by omega))) rfl ?_
     refine RL.val (Wanted.free rfl) (V.move rfl rfl) rfl ?_
     refine RL.nil ?_
     refine SG.weaken (ih0 _ _ _ ?_ ⟨i + 1, by omega, rfl, rfl, rfl⟩) ?_ ?_
     ·
      omega
     ·
      repeat (first | exact EnvLe.nil _ | refine EnvLe.cons rfl ?_)
     ·
      rw [hnw, hbt]
      exact entX
   ·
    have he1 := h101
    have hbt : betU (nwI D g.f i) X = nwI D g.f i := if_neg fun h => he1 h.1
    refine RH.val 9 rfl krX krX krX krX (Wanted.free rfl) (V.move rfl rfl) rfl ?_
    refine RH.skip 10 rfl krX krX krX krX (Wanted.no rfl rfl rfl rfl rfl) rfl ?_
    refine RH.skip 11 rfl krX krX krX krX (Wanted.no rfl rfl rfl rfl rfl) rfl ?_
    refine RH.skip 12 rfl krX krX krX krX (Wanted.no rfl rfl rfl rfl rfl) rfl ?_
    refine RH.skip 13 rfl krX krX krX krX (Wanted.no rfl rfl rfl rfl rfl) rfl ?_
    refine RH.skip 14 rfl krX krX krX krX (Wanted.no rfl rfl rfl rfl rfl) rfl ?_
    refine RH.pure 15 rfl krX krX krX krX (Wanted.free rfl) (V.pick_false rfl rfl rfl) rfl ?_
    refine RH.done krX ?_
    refine SG.cond_false rfl ?_
    refine SG.skip ?_
    refine SG.inBlock ?_
    refine SG.region ?_
    refine RL.val (Wanted.free rfl) (V.bin rfl rfl rfl (B.addI (by omega) (by omega))) rfl ?_
    refine RL.val (Wanted.free rfl) (V.move rfl rfl) rfl ?_
    refine RL.nil ?_
    refine SG.weaken (ih0 _ _ _ ?_ ⟨i + 1, by omega, rfl, rfl, rfl⟩) ?_ ?_
    ·
     omega
    ·
     repeat (first | exact EnvLe.nil _ | refine EnvLe.cons rfl ?_)
    ·
     rw [hnw, hbt]
     exact entX
 ·
  refine RL.nil ?_
  refine SG.seq ?_
  refine SG.cond_false rfl ?_
  refine SG.exit rfl ?_
  refine SG.seq ?_
  refine SG.seq ?_
  obtain rfl : i = 2 := by omega
  refine SG.region ?_
  refine RL.val (Wanted.free rfl) (V.fieldAddr rfl rfl fo101_0) rfl ?_
  refine RL.val (Wanted.free rfl) (V.load rfl on99 rfl pickX rfl) rfl ?_
  refine RL.cmp (Wanted.free rfl) (V.bin rfl rfl rfl B.eql) rfl (fun h119 => ?_) (fun h119 => ?_)
  ·
   have hz : (nwI D g.f 2).1 = 0 := UInt64.toNat_inj.1 (by have : (0 : UInt64).toNat = 0 := rfl; omega)
   have hE : nwE D g.f = 7 := if_pos hz
   have hM : nwM D g.f = (0, 0) := if_pos hz
   rw [hE, hM]
   refine RL.nil ?_
   refine SG.cond_true rfl ?_
   refine SG.seq ?_
   refine SG.region ?_
   refine RL.val (Wanted.free rfl) (V.buildS [] rfl bs101 (by exact trivial) rfl) rfl ?_
   refine RL.eff (Wanted.free rfl) (E.storeWhole rfl rfl rfl (by rfl) sz101 pickX (by first | (simp [Value.oneCell']; done) | (simp [setAt, Value.oneCell']; done)) (by rfl)) rfl ?_
   rintro _ _ rfl
   refine RL.val (Wanted.free rfl) (V.assign rfl rfl) rfl ?_
   refine RL.nil ?_
   refine SG.retE (Ret.r2 Tryd.func75 rfl (.agg rfl ag101 pickX rfl rfl) (.tmp rfl)) ?_ ⟨rfl, rfl⟩
   refine Lgm.ent (da := da) (dn := dn) (dc := dc) (ra := ra) (rn := rn) (rc := rc) ?_
   exact entX
  ·
   have hz : ¬ (nwI D g.f 2).1 = 0 := fun e => h119 (by rw [e]; rfl)
   have hE : nwE D g.f = 0 := if_neg hz
   have hM : nwM D g.f = nwI D g.f 2 := if_neg hz
   rw [hE, hM]
   refine RL.nil ?_
   refine SG.cond_false rfl ?_
   refine SG.skip ?_
   refine SG.seq ?_
   refine SG.region ?_
   refine RL.val (Wanted.free rfl) (V.loadAgg (us := [v64 (nwI D g.f 2).1, v64 (nwI D g.f 2).2]) rfl ag101 rfl pickX rfl rfl) rfl ?_
   refine RL.eff (Wanted.free rfl) (E.storeWhole rfl rfl rfl (by rfl) sz101 pickX (by first | (simp [Value.oneCell']; done) | (simp [setAt, Value.oneCell']; done)) (by rfl)) rfl ?_
   rintro _ _ rfl
   refine RL.val (Wanted.free rfl) (V.assign rfl rfl) rfl ?_
   refine RL.nil ?_
   refine SG.retE (Ret.r2 Tryd.func75 rfl (.agg rfl ag101 pickX rfl rfl) (.tmp rfl)) ?_ ⟨rfl, rfl⟩
   refine Lgm.ent (da := da) (dn := dn) (dc := dc) (ra := ra) (rn := rn) (rc := rc) ?_
   exact entX

end Go.Proofs.YtcbloadpffjkiaaDoor
