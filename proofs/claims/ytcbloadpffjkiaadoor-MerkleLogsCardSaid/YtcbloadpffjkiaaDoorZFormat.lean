/- Format. -/
import Derived.Test.YtcbloadpffjkiaaDoorZLogs1
namespace Go.Proofs.YtcbloadpffjkiaaDoor
open Go.Wk Go.Wl Go.Dsk

set_option maxRecDepth 100000 in
set_option maxHeartbeats 1000000 in
theorem format_ok {κ : World} {L : List Assn} {L1 : List Assn} {db : Nat} {D : Dk} {m0 : Nat} (hD : D.ok m0) (hm1 : 1 ≤ m0) (hm0 : m0 ≤ 100000) (hp : Pick (Dsk db D) L L1) {f n : Int} (hf : inInt f) (hn : inInt n) :
    Ctr Tryd.prog 33 #[ptr db 0, vI f, vI n] κ L (fun v M => ∃ b : Nat, ((fmtR D f n).2 = 0 ∧ v = .tuple #[ptr b 0, vI 0] ∧ M = Lgm b db (lg0 f n 1 0) :: Dsk db (fmtR D f n).1 :: L1) ∨ ((fmtR D f n).2 ≠ 0 ∧ v = .tuple #[.pointer none, vI (fmtR D f n).2] ∧ M = Dsk db (fmtR D f n).1 :: L1)) := by
 refine Ctr.enter (vs := [ptr db 0, vI f, vI n]) (m := 45) Tryd.func33 rfl rfl rfl ?_
 refine SG.ent hp ?_
 have hlen := hD.len
 refine SG.seq ?_
 refine SG.region ?_
 refine RL.val (Wanted.free rfl) (V.assign rfl rfl) rfl ?_
 refine RL.val (Wanted.free rfl) (V.assign rfl rfl) rfl ?_
 refine RL.nil ?_
 refine SG.seq ?_
 refine SG.seq ?_
 refine SG.region ?_
 refine RL.val (Wanted.free rfl) (V.move rfl rfl) rfl ?_
 refine RL.val (Wanted.free rfl) (V.move rfl rfl) rfl ?_
 refine RL.val (Wanted.free rfl) (V.move rfl rfl) rfl ?_
 refine RL.eff (Wanted.free rfl) (E.call rfl go63 rfl (check_ok hD pickX hf hn)) rfl ?_
 rintro _ _ ⟨rfl, rfl⟩
 refine RL.val (Wanted.free rfl) (V.assign rfl rfl) rfl ?_
 refine RL.nil ?_
 refine SG.seq ?_
 refine SG.region ?_
 refine RL.val (Wanted.free rfl) (V.move rfl rfl) rfl ?_
 refine RL.cmp (Wanted.free rfl) (V.bin rfl rfl rfl B.neq) rfl (fun h9 => ?_) (fun h9 => ?_)
 ·
  have hcv := h9
  have hR := fmtR_c hcv
  refine RL.nil ?_
  refine SG.cond_true rfl ?_
  refine SG.seq ?_
  refine SG.region ?_
  refine RL.val (Wanted.free rfl) (V.move rfl rfl) rfl ?_
  refine RL.val (Wanted.free rfl) (V.assign rfl rfl) rfl ?_
  refine RL.val (Wanted.free rfl) (V.assign rfl rfl) rfl ?_
  refine RL.nil ?_
  refine SG.retE (Ret.r2 Tryd.func33 rfl (.tmp rfl) (.tmp rfl)) ?_ ⟨0, .inr ⟨by rw [hR]; exact hcv, by rw [hR], rfl⟩⟩
  rw [hR]
  exact entX
 ·
  have hcv0 : checkV D f n = 0 := by omega
  obtain ⟨hn4, hf0, hnl, hfl, hon⟩ := checkV_zero.1 hcv0
  obtain ⟨N, rfl⟩ := Int.eq_ofNat_of_zero_le (show 0 ≤ n by omega)
  refine RL.nil ?_
  refine SG.cond_false rfl ?_
  refine SG.skip ?_
  refine SG.seq ?_
  refine SG.seq ?_
  refine SG.region ?_
  refine RL.val (Wanted.free rfl) (V.move rfl rfl) rfl ?_
  refine RL.val (Wanted.free rfl) (V.move rfl rfl) rfl ?_
  refine RL.nil ?_
  refine SG.block ?_
  refine SG.weaken (SG.loop2 (fun m9 al M => ∃ (i : Nat) (Dq : Dk), i ≤ N ∧ Dq.ok (m0 + i) ∧ zloop f Dq i (N - i) = zloop f D 0 N ∧ m9 = N - i ∧ al = [(0, ptr db 0), (1, vI f), (2, vI N), (18, vI N), (19, vI i)] ∧ M = Dsk db Dq :: L1) (m0 := _) ⟨0, D, by omega, hD, rfl, rfl, rfl, rfl⟩ ?_) ?_ ?_
  rotate_left
  ·
   repeat (first | exact EnvLe.nil _ | refine EnvLe.cons rfl ?_)
  ·
   exact entX
  rintro _ _ _ ⟨i, Dq, hi, hDq, hst, rfl, rfl, rfl⟩ ih0
  refine SG.seq ?_
  refine SG.region ?_
  refine RL.cmp (Wanted.free rfl) (V.bin rfl rfl rfl B.lss) rfl (fun h15 => ?_) (fun h15 => ?_)
  ·
   refine RL.nil ?_
   refine SG.seq ?_
   refine SG.cond_true rfl ?_
   refine SG.skip ?_
   refine SG.seq ?_
   refine SG.block ?_
   refine SG.seq ?_
   refine SG.region ?_
   refine RL.val (Wanted.free rfl) (V.move rfl rfl) rfl ?_
   refine RL.val (Wanted.free rfl) (V.assign rfl rfl) rfl ?_
   refine RL.nil ?_
   refine SG.seq ?_
   refine SG.region ?_
   refine RL.val (Wanted.free rfl) (V.move rfl rfl) rfl ?_
   refine RL.val (Wanted.free rfl) (V.move rfl rfl) rfl ?_
   refine RL.val (Wanted.free rfl) (V.move rfl rfl) rfl ?_
   refine RL.val (Wanted.free rfl) (V.bin rfl rfl rfl (B.addI (by omega) (by omega))) rfl ?_
   refine RL.eff (Wanted.free rfl) (E.call rfl go65 rfl (sector_ok (l := []) Src.nil (by decide))) rfl ?_
   rintro _ _ ⟨a26, c26, rfl, rfl⟩
   rw [sec_nil]
   refine RL.publish (T := R8) (a := a26) Pick.here ?_
   refine RL.eff (Wanted.free rfl) (E.call rfl go64 rfl (dWrite_ok hDq (b := db) pickX (f + i) (s := zsec) memX (by omega))) rfl ?_
   rintro _ _ ⟨rfl, rfl⟩
   refine RL.cmp (Wanted.free rfl) (V.bin rfl rfl rfl B.neq) rfl (fun h24 => ?_) (fun h24 => ?_)
   ·
    have hwe := h24
    have hz1 : zloop f D 0 N = (Dq, false) := by rw [← hst, show N - i = (N - (i + 1)) + 1 from by omega, zloop, if_pos hwe]
    have hR := fmtR_z hcv0 hz1
    rw [writeE_ne hwe]
    refine RL.nil ?_
    refine SG.cond_true rfl ?_
    refine SG.seq ?_
    refine SG.region ?_
    refine RL.val (Wanted.free rfl) (V.assign rfl rfl) rfl ?_
    refine RL.val (Wanted.free rfl) (V.assign rfl rfl) rfl ?_
    refine RL.nil ?_
    refine SG.retE (Ret.r2 Tryd.func33 rfl (.tmp rfl) (.tmp rfl)) ?_ ⟨0, .inr ⟨by rw [hR]; exact (show (10 : Int) ≠ 0 by decide), by rw [hR], rfl⟩⟩
    rw [hR]
    exact entX
   ·
    have hwe := h24
    have hst2 : zloop f (Dq.write (f + i) zsec) (i + 1) (N - (i + 1)) = zloop f D 0 N := by rw [← hst, show N - i = (N - (i + 1)) + 1 from by omega, zloop, if_neg hwe]
    refine RL.nil ?_
    refine SG.cond_false rfl ?_
    refine SG.skip ?_
    refine SG.inBlock ?_
    refine SG.region ?_
    refine RL.val (Wanted.free rfl) (V.bin rfl rfl rfl (B.addI (by omega) (by omega))) rfl ?_
    refine RL.val (Wanted.free rfl) (V.move rfl rfl) rfl ?_
    refine RL.nil ?_
    refine SG.weaken (ih0 _ _ _ ?_ ⟨i + 1, _, by omega, by have := hDq.write (f + i) zsec; rw [show m0 + (i + 1) = m0 + i + 1 from by omega]; exact this, hst2, rfl, rfl, rfl⟩) ?_ ?_
    ·
     omega
    ·
     repeat (first | exact EnvLe.nil _ | refine EnvLe.cons rfl ?_)
    ·
     exact entX
  ·
   refine RL.nil ?_
   refine SG.seq ?_
   refine SG.cond_false rfl ?_
   refine SG.exit rfl ?_
   refine SG.seq ?_
   have hz2 : zloop f D 0 N = (Dq, true) := by rw [← hst, show N - i = 0 from by omega]; rfl
   refine SG.region ?_
   refine RL.val (Wanted.free rfl) (V.move rfl rfl) rfl ?_
   refine RL.val (Wanted.free rfl) (V.move rfl rfl) rfl ?_
   refine RL.val (Wanted.free rfl) (V.move rfl rfl) rfl ?_
   refine RL.val (Wanted.free rfl) (V.buildS [(0, _), (1, _), (2, _)] rfl bs103 (by exact ⟨rfl, ⟨_, rfl, rfl⟩, ⟨rfl, ⟨_, rfl, rfl⟩, ⟨rfl, ⟨_, rfl, rfl⟩, trivial⟩⟩⟩) rfl) rfl ?_
   refine RL.eff (Wanted.free rfl) (E.box [ptr db 0, vI f, vI N, v64 0, v64 0, .slice none 0 0, .slice none 0 0, vI 0, vI 0] rfl rfl rfl) rfl ?_
   rintro _ _ ⟨b34, rfl, rfl⟩
   refine RL.val (Wanted.free rfl) (V.assign rfl rfl) rfl ?_
   refine RL.nil ?_
   refine SG.seq ?_
   refine SG.seq ?_
   refine SG.ent (Buf.nil (T := Rep.slice R8) (e := 62)) ?_
   refine SG.ent (Buf.nil (T := R8) (e := 5)) ?_
   refine SG.ent (Lgm.ent (b := b34) (db := db) (g := lg0 f N 0 0) (da := none) (dn := 0) (dc := 0) (ra := none) (rn := 0) (rc := 0) (by repeat (first | exact Ent.refl _ | (apply Ent.cons; (· repeat (first | exact Pick.here | (refine Pick.sl ?_; (· repeat (first | exact List.Mem.head _ | assumption | apply List.Mem.tail))) | apply Pick.there))) | (refine Ent.trans (Ent.drop _ _) ?_)))) ?_
   refine SG.region ?_
   refine RL.val (Wanted.free rfl) (V.move rfl rfl) rfl ?_
   refine RL.eff (Wanted.free rfl) (E.call rfl go66 rfl (dFlush_ok hDq (b := db) pickX (by omega))) rfl ?_
   rintro _ _ ⟨rfl, rfl⟩
   refine RL.cmp (Wanted.free rfl) (V.bin rfl rfl rfl B.neq) rfl (fun h37 => ?_) (fun h37 => ?_)
   ·
    have hR := fmtR_f hcv0 hz2 h37
    refine RL.val (Wanted.free rfl) (V.move rfl rfl) rfl ?_
    refine RL.skip (Wanted.no rfl rfl rfl rfl rfl) rfl ?_
    refine RL.skip (Wanted.no rfl rfl rfl rfl rfl) rfl ?_
    refine RL.skip (Wanted.no rfl rfl rfl rfl rfl) rfl ?_
    refine RL.skip (Wanted.no rfl rfl rfl rfl rfl) rfl ?_
    refine RL.val (Wanted.free rfl) (V.pick_true rfl rfl rfl) rfl ?_
    refine RL.nil ?_
    refine SG.cond_true rfl ?_
    refine SG.seq ?_
    refine SG.region ?_
    refine RL.val (Wanted.free rfl) (V.assign rfl rfl) rfl ?_
    refine RL.val (Wanted.free rfl) (V.assign rfl rfl) rfl ?_
    refine RL.nil ?_
    refine SG.retE (Ret.r2 Tryd.func33 rfl (.tmp rfl) (.tmp rfl)) ?_ ⟨0, .inr ⟨by rw [hR]; exact (show (10 : Int) ≠ 0 by decide), by rw [hR], rfl⟩⟩
    rw [hR]
    exact entX
   ·
    have hR := fmtR_p hcv0 hz2 h37
    refine RL.val (Wanted.free rfl) (V.move rfl rfl) rfl ?_
    refine RL.val (Wanted.yes rfl rfl rfl rfl) (V.move rfl rfl) rfl ?_
    refine RL.val (Wanted.yes rfl rfl rfl rfl) (V.buildS [(0, _)] rfl bs101 (by exact ⟨rfl, ⟨_, rfl, rfl⟩, trivial⟩) rfl) rfl ?_
    refine RL.eff (Wanted.yes rfl rfl rfl rfl) (E.call rfl go67 rfl (lPut_ok (g := lg0 f N 0 0) (lg0_ok (by omega) (by omega) (by omega) (by omega) 0) (D := Dq.flush) (L1 := Dsk db Dq.flush :: L1) pickX (hDq.flush (by omega)) (by omega) Pick.here 1 0)) rfl ?_
    rintro _ _ ⟨rfl, rfl⟩
    refine RL.cmp (Wanted.yes rfl rfl rfl rfl) (V.bin rfl rfl rfl B.neq) rfl (fun h45 => ?_) (fun h45 => ?_)
    ·
     have hpe := h45
     refine RL.val (Wanted.free rfl) (V.pick_false rfl rfl rfl) rfl ?_
     refine RL.nil ?_
     refine SG.cond_true rfl ?_
     refine SG.seq ?_
     refine SG.region ?_
     refine RL.val (Wanted.free rfl) (V.assign rfl rfl) rfl ?_
     refine RL.val (Wanted.free rfl) (V.assign rfl rfl) rfl ?_
     refine RL.nil ?_
     have hpt : putE Dq.flush f 1 0 = 10 := (putE_cases _ _ _ _).elim (fun e => absurd e hpe) id
     refine SG.retE (Ret.r2 Tryd.func33 rfl (.tmp rfl) (.tmp rfl)) ?_ ⟨0, .inr ⟨by rw [hR]; exact hpe, by rw [hR]; show _ = Value.tuple #[_, vI (putE Dq.flush f 1 0)]; rw [hpt], rfl⟩⟩
     rw [hR]
     exact entX
    ·
     have hpe : putE Dq.flush f 1 0 = 0 := Decidable.byContradiction fun e => h45 e
     refine RL.val (Wanted.free rfl) (V.pick_false rfl rfl rfl) rfl ?_
     refine RL.nil ?_
     refine SG.cond_false rfl ?_
     refine SG.skip ?_
     refine SG.seq ?_
     refine SG.region ?_
     refine RL.val (Wanted.free rfl) (V.move rfl rfl) rfl ?_
     refine RL.val (Wanted.free rfl) (V.assign rfl rfl) rfl ?_
     refine RL.val (Wanted.free rfl) (V.assign rfl rfl) rfl ?_
     refine RL.nil ?_
     refine SG.retE (Ret.r2 Tryd.func33 rfl (.tmp rfl) (.tmp rfl)) ?_ ⟨b34, .inl ⟨by rw [hR]; exact hpe, rfl, rfl⟩⟩
     rw [hR, putL_ok (g := lg0 f N 0 0) hpe]
     exact entX

end Go.Proofs.YtcbloadpffjkiaaDoor
