/- The examples. -/
import Derived.Test.YteghgfgkkpfcaaaDisk
import Derived.Test.YteghgfgkkpfcaaaRefs
import Derived.Test.YteghgfgkkpfcaaaDPlain3
namespace Go.Proofs.Yteghgfgkkpfcaaa
open Go.Wk Go.Dsk

set_option maxRecDepth 100000 in
theorem full_ok {κ : World} {L : List Assn} (x : UInt8) :
    Ctr Try.prog 23 #[v8 x] κ L (fun v M => ∃ a' c', v = .slice a' 64 c' ∧ M = Buf R8 5 a' 64 c' (by64 x) :: L) := by
  refine Ctr.enter (vs := [v8 x]) (m := 14) Try.func23 rfl rfl rfl ?_
  refine SG.seq ?_
  refine SG.region ?_
  refine RL.val (Wanted.free rfl) (V.assign rfl rfl) rfl ?_
  refine RL.nil ?_
  refine SG.seq ?_
  refine SG.region ?_
  refine RL.val (Wanted.free rfl) (V.assign rfl rfl) rfl ?_
  refine RL.nil ?_
  refine SG.seq ?_
  refine SG.seq ?_
  refine SG.region ?_
  refine RL.val (Wanted.free rfl) (V.assign rfl rfl) rfl ?_
  refine RL.nil ?_
  refine SG.block ?_
  refine SG.ent (Buf.nil (T := R8) (e := 5)) ?_
  refine SG.weaken (SG.loop2 (fun m al M => ∃ (i : Nat) (a' : Option Addr) (c' : Nat), i ≤ 64 ∧ m = 64 - i ∧ al = [(0, v8 x), (3, .slice a' i c'), (4, vI i)] ∧ M = Buf R8 5 a' i c' (List.replicate i x) :: L) (m0 := _) ⟨0, none, 0, by omega, rfl, rfl, rfl⟩ ?_) ?_ ?_
  rotate_left
  · repeat (first | exact EnvLe.nil _ | refine EnvLe.cons rfl ?_)
  · repeat (first | exact Ent.refl _ | (apply Ent.cons; (· repeat (first | exact Pick.here | (refine Pick.sl ?_; (· repeat (first | exact List.Mem.head _ | assumption | apply List.Mem.tail))) | apply Pick.there))) | (refine Ent.trans (Ent.drop _ _) ?_))
  rintro _ _ _ ⟨i, a', c', hi, rfl, rfl, rfl⟩ ih0
  refine SG.seq ?_
  refine SG.seq ?_
  refine SG.region ?_
  refine RL.val (Wanted.free rfl) (V.move rfl rfl) rfl ?_
  refine RL.cmp (Wanted.free rfl) (V.bin rfl rfl rfl B.lss) rfl (fun h5 => ?_) (fun h5 => ?_)
  · skip
    refine RL.nil ?_
    refine SG.cond_true rfl ?_
    refine SG.skip ?_
    refine SG.seq ?_
    refine SG.block ?_
    refine SG.region ?_
    refine RL.val (Wanted.free rfl) (V.move rfl rfl) rfl ?_
    refine RL.val (Wanted.free rfl) (V.move rfl rfl) rfl ?_
    refine RL.eff (Wanted.free rfl) (E.lit1 _ rfl el32.slice ze5 rfl (by decide) (by decide) rfl rfl rfl) rfl ?_
    rintro _ _ ⟨b8, rfl, rfl⟩
    refine RL.eff (Wanted.free rfl) (E.append (T := R8) rfl rfl rfl el32 el32.noInt rfl rfl (by repeat (first | exact Pick.here | assumption | apply Pick.there)) (Src.lit (x := x) (by repeat (first | exact Pick.here | assumption | apply Pick.there)) (by first | trivial | assumption | omega)) (by first | omega | (simp; omega)) (by first | omega | (simp; omega))) rfl ?_
    intro _ _ hK9
    try rw [List.nil_append] at hK9
    try rw [Nat.zero_add] at hK9
    obtain ⟨a12, c12, rfl, rfl⟩ := hK9
    refine RL.val (Wanted.free rfl) (V.assign rfl rfl) rfl ?_
    refine RL.nil ?_
    refine SG.inBlock ?_
    refine SG.region ?_
    refine RL.val (Wanted.free rfl) (V.move rfl rfl) rfl ?_
    refine RL.val (Wanted.free rfl) (V.bin rfl rfl rfl (B.addI (by omega) (by omega))) rfl ?_
    refine RL.val (Wanted.free rfl) (V.assign rfl rfl) rfl ?_
    refine RL.nil ?_
    refine SG.weaken (ih0 _ _ _ ?_ ⟨i + 1, a12, c12, by omega, rfl, rfl, rfl⟩) ?_ ?_
    · omega
    · repeat (first | exact EnvLe.nil _ | refine EnvLe.cons rfl ?_)
    · rw [show List.replicate (i + 1) x = List.replicate i x ++ [x] from List.replicate_succ']
      repeat (first | exact Ent.refl _ | (apply Ent.cons; (· repeat (first | exact Pick.here | (refine Pick.sl ?_; (· repeat (first | exact List.Mem.head _ | assumption | apply List.Mem.tail))) | apply Pick.there))) | (refine Ent.trans (Ent.drop _ _) ?_))
  · skip
    refine RL.nil ?_
    refine SG.cond_false rfl ?_
    refine SG.exit rfl ?_
    refine SG.seq ?_
    refine SG.region ?_
    refine RL.val (Wanted.free rfl) (V.move rfl rfl) rfl ?_
    refine RL.val (Wanted.free rfl) (V.assign rfl rfl) rfl ?_
    refine RL.nil ?_
    obtain rfl : i = 64 := by omega
    refine SG.retE (Ret.r1 Try.func23 rfl (.tmp rfl)) ?_ ⟨_, _, rfl, rfl⟩
    repeat (first | exact Ent.refl _ | (apply Ent.cons; (· repeat (first | exact Pick.here | (refine Pick.sl ?_; (· repeat (first | exact List.Mem.head _ | assumption | apply List.Mem.tail))) | apply Pick.there))) | (refine Ent.trans (Ent.drop _ _) ?_))

set_option maxRecDepth 100000 in
theorem lives_ok {κ : World} {L : List Assn}  :
    Ctr Try.prog 17 #[] κ L (fun v M => v = vB true ∧ M = L) := by
  refine Ctr.enter (vs := []) (m := 165) Try.func17 rfl rfl rfl ?_
  refine SG.seq ?_
  refine SG.region ?_
  refine RL.val (Wanted.free rfl) (V.assign rfl rfl) rfl ?_
  refine RL.nil ?_
  refine SG.seq ?_
  refine SG.region ?_
  refine RL.eff (Wanted.free rfl) (E.call rfl go19 rfl (dNew_ok (n := 2) (by decide) (by decide))) rfl ?_
  rintro _ _ ⟨b17, rfl, rfl⟩
  rw [lv0_def]
  refine RL.val (Wanted.free rfl) (V.move rfl rfl) rfl ?_
  refine RL.val (Wanted.free rfl) (V.extract rfl rfl rfl) rfl ?_
  refine RL.val (Wanted.free rfl) (V.extract rfl rfl rfl) rfl ?_
  refine RL.val (Wanted.free rfl) (V.assign rfl rfl) rfl ?_
  refine RL.val (Wanted.free rfl) (V.assign rfl rfl) rfl ?_
  refine RL.nil ?_
  refine SG.seq ?_
  refine SG.region ?_
  refine RL.eff (Wanted.free rfl) (E.call rfl go19 rfl (dNew_err (by decide))) rfl ?_
  rintro _ _ ⟨rfl, rfl⟩
  refine RL.val (Wanted.free rfl) (V.move rfl rfl) rfl ?_
  refine RL.val (Wanted.free rfl) (V.extract rfl rfl rfl) rfl ?_
  refine RL.val (Wanted.free rfl) (V.extract rfl rfl rfl) rfl ?_
  refine RL.val (Wanted.free rfl) (V.assign rfl rfl) rfl ?_
  refine RL.val (Wanted.free rfl) (V.assign rfl rfl) rfl ?_
  refine RL.nil ?_
  refine SG.seq ?_
  refine SG.seq ?_
  refine SG.region ?_
  refine RL.val (Wanted.free rfl) (V.move rfl rfl) rfl ?_
  refine RL.cmpF (Wanted.free rfl) (V.eqlPtrNil rfl up23 rfl rfl) rfl (by simp) ?_
  refine RL.val (Wanted.free rfl) (V.move rfl rfl) rfl ?_
  refine RL.val (Wanted.yes rfl rfl rfl rfl) (V.move rfl rfl) rfl ?_
  refine RL.cmpF (Wanted.yes rfl rfl rfl rfl) (V.bin rfl rfl rfl B.neq) rfl (by decide) ?_
  refine RL.val (Wanted.free rfl) (V.pick_false rfl rfl rfl) rfl ?_
  refine RL.val (Wanted.free rfl) (V.move rfl rfl) rfl ?_
  refine RL.val (Wanted.yes rfl rfl rfl rfl) (V.move rfl rfl) rfl ?_
  refine RL.cmpF (Wanted.yes rfl rfl rfl rfl) (V.bin rfl rfl rfl B.neq) rfl (by decide) ?_
  refine RL.val (Wanted.free rfl) (V.pick_false rfl rfl rfl) rfl ?_
  refine RL.val (Wanted.free rfl) (V.move rfl rfl) rfl ?_
  refine RL.val (Wanted.yes rfl rfl rfl rfl) (V.move rfl rfl) rfl ?_
  refine RL.eff (Wanted.yes rfl rfl rfl rfl) (E.call rfl go20 rfl (dLen_ok lv0_ok (by repeat (first | exact Pick.here | assumption | apply Pick.there)))) rfl ?_
  rintro _ _ ⟨rfl, rfl⟩
  refine RL.cmpF (Wanted.yes rfl rfl rfl rfl) (V.bin rfl rfl rfl B.neq) rfl (by decide +kernel) ?_
  refine RL.val (Wanted.free rfl) (V.pick_false rfl rfl rfl) rfl ?_
  refine RL.val (Wanted.free rfl) (V.move rfl rfl) rfl ?_
  refine RL.val (Wanted.yes rfl rfl rfl rfl) (V.move rfl rfl) rfl ?_
  refine RL.eff (Wanted.yes rfl rfl rfl rfl) (E.call rfl go34 rfl (dOn_ok lv0_ok (by repeat (first | exact Pick.here | assumption | apply Pick.there)))) rfl ?_
  rintro _ _ ⟨rfl, rfl⟩
  refine RL.val (Wanted.yes rfl rfl rfl rfl) (V.not rfl rfl) rfl ?_
  refine RL.val (Wanted.free rfl) (V.pick_false rfl rfl rfl) rfl ?_
  refine RL.nil ?_
  refine SG.cond_false rfl ?_
  refine SG.skip ?_
  refine SG.seq ?_
  refine SG.seq ?_
  refine SG.region ?_
  refine RL.val (Wanted.free rfl) (V.move rfl rfl) rfl ?_
  refine RL.eff (Wanted.free rfl) (E.call rfl go23 rfl (full_ok 7)) rfl ?_
  rintro _ _ ⟨a45, c45, rfl, rfl⟩
  refine RL.publish (T := R8) (a := a45) Pick.here ?_
  refine RL.eff (Wanted.free rfl) (E.call rfl go31 rfl (dWrite_ok lv0_ok (by repeat (first | exact Pick.here | assumption | apply Pick.there)) _ (s := by64 7) (by repeat (first | exact List.Mem.head _ | assumption | apply List.Mem.tail)) (by decide))) rfl ?_
  rintro _ _ ⟨rfl, rfl⟩
  rw [lv1_def]
  refine RL.cmpF (Wanted.free rfl) (V.bin rfl rfl rfl B.neq) rfl (by decide +kernel) ?_
  refine RL.val (Wanted.free rfl) (V.move rfl rfl) rfl ?_
  refine RL.val (Wanted.yes rfl rfl rfl rfl) (V.move rfl rfl) rfl ?_
  refine RL.eff (Wanted.yes rfl rfl rfl rfl) (E.call rfl go30 rfl (dFlush_ok lv1_ok (by repeat (first | exact Pick.here | assumption | apply Pick.there)) (by decide))) rfl ?_
  rintro _ _ ⟨rfl, rfl⟩
  rw [lv2_def]
  refine RL.cmpF (Wanted.yes rfl rfl rfl rfl) (V.bin rfl rfl rfl B.neq) rfl (by decide +kernel) ?_
  refine RL.val (Wanted.free rfl) (V.pick_false rfl rfl rfl) rfl ?_
  refine RL.val (Wanted.free rfl) (V.move rfl rfl) rfl ?_
  refine RL.val (Wanted.yes rfl rfl rfl rfl) (V.move rfl rfl) rfl ?_
  refine RL.eff (Wanted.yes rfl rfl rfl rfl) (E.call rfl go23 rfl (full_ok 8)) rfl ?_
  rintro _ _ ⟨a55, c55, rfl, rfl⟩
  refine RL.publish (T := R8) (a := a55) Pick.here ?_
  refine RL.eff (Wanted.yes rfl rfl rfl rfl) (E.call rfl go31 rfl (dWrite_ok lv2_ok (by repeat (first | exact Pick.here | assumption | apply Pick.there)) _ (s := by64 8) (by repeat (first | exact List.Mem.head _ | assumption | apply List.Mem.tail)) (by decide))) rfl ?_
  rintro _ _ ⟨rfl, rfl⟩
  rw [lv3_def]
  refine RL.cmpF (Wanted.yes rfl rfl rfl rfl) (V.bin rfl rfl rfl B.neq) rfl (by decide +kernel) ?_
  refine RL.val (Wanted.free rfl) (V.pick_false rfl rfl rfl) rfl ?_
  refine RL.val (Wanted.free rfl) (V.move rfl rfl) rfl ?_
  refine RL.val (Wanted.yes rfl rfl rfl rfl) (V.move rfl rfl) rfl ?_
  refine RL.eff (Wanted.yes rfl rfl rfl rfl) (E.call rfl go23 rfl (full_ok 9)) rfl ?_
  rintro _ _ ⟨a61, c61, rfl, rfl⟩
  refine RL.publish (T := R8) (a := a61) Pick.here ?_
  refine RL.eff (Wanted.yes rfl rfl rfl rfl) (E.call rfl go31 rfl (dWrite_ok lv3_ok (by repeat (first | exact Pick.here | assumption | apply Pick.there)) _ (s := by64 9) (by repeat (first | exact List.Mem.head _ | assumption | apply List.Mem.tail)) (by decide))) rfl ?_
  rintro _ _ ⟨rfl, rfl⟩
  rw [lv4_def]
  refine RL.cmpF (Wanted.yes rfl rfl rfl rfl) (V.bin rfl rfl rfl B.neq) rfl (by decide +kernel) ?_
  refine RL.val (Wanted.free rfl) (V.pick_false rfl rfl rfl) rfl ?_
  refine RL.nil ?_
  refine SG.cond_false rfl ?_
  refine SG.skip ?_
  refine SG.seq ?_
  refine SG.region ?_
  refine RL.val (Wanted.free rfl) (V.move rfl rfl) rfl ?_
  refine RL.eff (Wanted.free rfl) (E.call rfl go37 rfl (dClone_ok lv4_ok (by repeat (first | exact Pick.here | assumption | apply Pick.there)) (by decide))) rfl ?_
  rintro _ _ ⟨b66, rfl, rfl⟩
  refine RL.val (Wanted.free rfl) (V.assign rfl rfl) rfl ?_
  refine RL.nil ?_
  refine SG.seq ?_
  refine SG.seq ?_
  refine SG.region ?_
  refine RL.val (Wanted.free rfl) (V.move rfl rfl) rfl ?_
  refine RL.cmpF (Wanted.free rfl) (V.eqlPtrNil rfl up23 rfl rfl) rfl (by simp) ?_
  refine RL.nil ?_
  refine SG.cond_false rfl ?_
  refine SG.skip ?_
  refine SG.seq ?_
  refine SG.region ?_
  refine RL.val (Wanted.free rfl) (V.move rfl rfl) rfl ?_
  refine RL.eff (Wanted.free rfl) (E.call rfl go21 rfl (dRead_ok lv4_ok (by repeat (first | exact Pick.here | assumption | apply Pick.there)) _ (by decide))) rfl ?_
  rintro _ _ ⟨a71, m71, c71, rfl, rfl⟩
  rw [lv4_read]
  refine RL.val (Wanted.free rfl) (V.move rfl rfl) rfl ?_
  refine RL.val (Wanted.free rfl) (V.extract rfl rfl rfl) rfl ?_
  refine RL.val (Wanted.free rfl) (V.extract rfl rfl rfl) rfl ?_
  refine RL.val (Wanted.free rfl) (V.assign rfl rfl) rfl ?_
  refine RL.val (Wanted.free rfl) (V.assign rfl rfl) rfl ?_
  refine RL.nil ?_
  refine SG.seq ?_
  refine SG.region ?_
  refine RL.val (Wanted.free rfl) (V.move rfl rfl) rfl ?_
  refine RL.val (Wanted.free rfl) (V.buildS [(0, _), (1, _), (2, _)] rfl bs67 (by exact ⟨rfl, ⟨_, rfl, rfl⟩, ⟨rfl, ⟨_, rfl, rfl⟩, ⟨rfl, ⟨_, rfl, rfl⟩, trivial⟩⟩⟩) rfl) rfl ?_
  refine RL.eff (Wanted.free rfl) (E.lit1 _ rfl el33.slice ze67 rfl (by decide) (by decide) rfl rfl rfl) rfl ?_
  rintro _ _ ⟨b76, rfl, rfl⟩
  refine RL.ent (Buf.lit1' (T := RTorn) (b := b76) (y := ⟨1, 1, 10⟩) Pick.here rfl (fun _ => ⟨rfl, ⟨by decide, by decide⟩, ⟨by decide, by decide⟩, ⟨by decide, by decide⟩⟩)) ?_
  refine RL.publish (T := RTorn) (a := some ⟨b76, 0, none⟩) Pick.here ?_
  refine RL.eff (Wanted.free rfl) (E.call rfl go27 rfl (dRestart_ok lv4_ok (b := b17) (by repeat (first | exact Pick.here | assumption | apply Pick.there)) (ts := [⟨1, 1, 10⟩]) (by repeat (first | exact List.Mem.head _ | assumption | apply List.Mem.tail)) (by decide) (by decide))) rfl ?_
  rintro _ _ ⟨rfl, rfl⟩
  rw [lv5_def]
  refine RL.nil ?_
  refine SG.seq ?_
  refine SG.region ?_
  refine RL.val (Wanted.free rfl) (V.move rfl rfl) rfl ?_
  refine RL.eff (Wanted.free rfl) (E.call rfl go21 rfl (dRead_ok lv5_ok (by repeat (first | exact Pick.here | assumption | apply Pick.there)) _ (by decide))) rfl ?_
  rintro _ _ ⟨a80, m80, c80, rfl, rfl⟩
  rw [lv5_read]
  refine RL.val (Wanted.free rfl) (V.move rfl rfl) rfl ?_
  refine RL.val (Wanted.free rfl) (V.extract rfl rfl rfl) rfl ?_
  refine RL.val (Wanted.free rfl) (V.extract rfl rfl rfl) rfl ?_
  refine RL.val (Wanted.free rfl) (V.assign rfl rfl) rfl ?_
  refine RL.val (Wanted.free rfl) (V.assign rfl rfl) rfl ?_
  refine RL.nil ?_
  refine SG.seq ?_
  refine SG.ent (Sl.nil (T := RTorn)) ?_
  refine SG.region ?_
  refine RL.val (Wanted.free rfl) (V.move rfl rfl) rfl ?_
  refine RL.eff (Wanted.free rfl) (E.call rfl go27 rfl (dRestart_ok lv4_ok (b := b66) (by repeat (first | exact Pick.here | assumption | apply Pick.there)) (ts := []) (by repeat (first | exact List.Mem.head _ | assumption | apply List.Mem.tail)) (by decide) (by decide))) rfl ?_
  rintro _ _ ⟨rfl, rfl⟩
  rw [lw1_def]
  refine RL.nil ?_
  refine SG.seq ?_
  refine SG.region ?_
  refine RL.val (Wanted.free rfl) (V.move rfl rfl) rfl ?_
  refine RL.eff (Wanted.free rfl) (E.call rfl go21 rfl (dRead_ok lw1_ok (by repeat (first | exact Pick.here | assumption | apply Pick.there)) _ (by decide))) rfl ?_
  rintro _ _ ⟨a87, m87, c87, rfl, rfl⟩
  rw [lw1_read]
  refine RL.val (Wanted.free rfl) (V.move rfl rfl) rfl ?_
  refine RL.val (Wanted.free rfl) (V.extract rfl rfl rfl) rfl ?_
  refine RL.val (Wanted.free rfl) (V.extract rfl rfl rfl) rfl ?_
  refine RL.val (Wanted.free rfl) (V.assign rfl rfl) rfl ?_
  refine RL.val (Wanted.free rfl) (V.assign rfl rfl) rfl ?_
  refine RL.nil ?_
  refine SG.seq ?_
  refine SG.region ?_
  refine RL.val (Wanted.free rfl) (V.move rfl rfl) rfl ?_
  refine RL.eff (Wanted.free rfl) (E.call rfl go29 rfl (dFuse_ok lw1_ok (by repeat (first | exact Pick.here | assumption | apply Pick.there)) 1 (by decide) (by decide))) rfl ?_
  rintro _ _ ⟨rfl, rfl⟩
  rw [lw2_def]
  refine RL.nil ?_
  refine SG.seq ?_
  refine SG.region ?_
  refine RL.val (Wanted.free rfl) (V.move rfl rfl) rfl ?_
  refine RL.eff (Wanted.free rfl) (E.call rfl go23 rfl (full_ok 1)) rfl ?_
  rintro _ _ ⟨a93, c93, rfl, rfl⟩
  refine RL.publish (T := R8) (a := a93) Pick.here ?_
  refine RL.eff (Wanted.free rfl) (E.call rfl go31 rfl (dWrite_ok lw2_ok (by repeat (first | exact Pick.here | assumption | apply Pick.there)) _ (s := by64 1) (by repeat (first | exact List.Mem.head _ | assumption | apply List.Mem.tail)) (by decide))) rfl ?_
  rintro _ _ ⟨rfl, rfl⟩
  rw [lw3_def]
  refine RL.val (Wanted.free rfl) (V.assign rfl rfl) rfl ?_
  refine RL.nil ?_
  refine SG.seq ?_
  refine SG.region ?_
  refine RL.val (Wanted.free rfl) (V.move rfl rfl) rfl ?_
  refine RL.eff (Wanted.free rfl) (E.call rfl go23 rfl (full_ok 2)) rfl ?_
  rintro _ _ ⟨a96, c96, rfl, rfl⟩
  refine RL.publish (T := R8) (a := a96) Pick.here ?_
  refine RL.eff (Wanted.free rfl) (E.call rfl go31 rfl (dWrite_ok lw3_ok (by repeat (first | exact Pick.here | assumption | apply Pick.there)) _ (s := by64 2) (by repeat (first | exact List.Mem.head _ | assumption | apply List.Mem.tail)) (by decide))) rfl ?_
  rintro _ _ ⟨rfl, rfl⟩
  rw [lw4_def]
  refine RL.val (Wanted.free rfl) (V.assign rfl rfl) rfl ?_
  refine RL.nil ?_
  refine SG.seq ?_
  refine SG.region ?_
  refine RL.val (Wanted.free rfl) (V.move rfl rfl) rfl ?_
  refine RL.eff (Wanted.free rfl) (E.call rfl go21 rfl (dRead_ok lw4_ok (by repeat (first | exact Pick.here | assumption | apply Pick.there)) _ (by decide))) rfl ?_
  rintro _ _ ⟨a100, m100, c100, rfl, rfl⟩
  rw [lw4_read]
  refine RL.val (Wanted.free rfl) (V.move rfl rfl) rfl ?_
  refine RL.val (Wanted.free rfl) (V.extract rfl rfl rfl) rfl ?_
  refine RL.val (Wanted.free rfl) (V.extract rfl rfl rfl) rfl ?_
  refine RL.val (Wanted.free rfl) (V.assign rfl rfl) rfl ?_
  refine RL.val (Wanted.free rfl) (V.assign rfl rfl) rfl ?_
  refine RL.nil ?_
  refine SG.seq ?_
  refine SG.seq ?_
  refine SG.buf (T := R8) (a := a80) (by repeat (first | exact Pick.here | assumption | apply Pick.there)) fun h80 _ _ => ?_
  have h80b : m80 = 64 := by rw [← h80]; decide +kernel
  subst h80b
  refine SG.region ?_
  refine RL.val (Wanted.free rfl) (V.move rfl rfl) rfl ?_
  refine RL.cmpF (Wanted.free rfl) (V.bin rfl rfl rfl B.neq) rfl (by decide) ?_
  refine RL.val (Wanted.free rfl) (V.move rfl rfl) rfl ?_
  refine RL.val (Wanted.yes rfl rfl rfl rfl) (V.move rfl rfl) rfl ?_
  refine RL.cmpF (Wanted.yes rfl rfl rfl rfl) (V.bin rfl rfl rfl B.neq) rfl (by decide) ?_
  refine RL.val (Wanted.free rfl) (V.pick_false rfl rfl rfl) rfl ?_
  refine RL.val (Wanted.free rfl) (V.move rfl rfl) rfl ?_
  refine RL.val (Wanted.yes rfl rfl rfl rfl) (V.move rfl rfl) rfl ?_
  refine RL.cmpF (Wanted.yes rfl rfl rfl rfl) (V.bin rfl rfl rfl B.neq) rfl (by decide) ?_
  refine RL.val (Wanted.free rfl) (V.pick_false rfl rfl rfl) rfl ?_
  refine RL.val (Wanted.free rfl) (V.move rfl rfl) rfl ?_
  refine RL.val (Wanted.yes rfl rfl rfl rfl) (V.move rfl rfl) rfl ?_
  refine RL.cmpF (Wanted.yes rfl rfl rfl rfl) (V.bin rfl rfl rfl B.neq) rfl (by decide +kernel) ?_
  refine RL.val (Wanted.free rfl) (V.pick_false rfl rfl rfl) rfl ?_
  refine RL.val (Wanted.free rfl) (V.move rfl rfl) rfl ?_
  refine RL.val (Wanted.yes rfl rfl rfl rfl) (V.move rfl rfl) rfl ?_
  refine RL.cmpF (Wanted.yes rfl rfl rfl rfl) (V.bin rfl rfl rfl B.neq) rfl (by decide +kernel) ?_
  refine RL.val (Wanted.free rfl) (V.pick_false rfl rfl rfl) rfl ?_
  refine RL.val (Wanted.free rfl) (V.move rfl rfl) rfl ?_
  refine RL.val (Wanted.yes rfl rfl rfl rfl) (V.move rfl rfl) rfl ?_
  refine RL.cmpF (Wanted.yes rfl rfl rfl rfl) (V.bin rfl rfl rfl B.neq) rfl (by decide) ?_
  refine RL.val (Wanted.free rfl) (V.pick_false rfl rfl rfl) rfl ?_
  refine RL.val (Wanted.free rfl) (V.move rfl rfl) rfl ?_
  refine RL.val (Wanted.yes rfl rfl rfl rfl) (V.move rfl rfl) rfl ?_
  refine RL.eff (Wanted.yes rfl rfl rfl rfl) (E.call rfl go34 rfl (dOn_ok lw4_ok (by repeat (first | exact Pick.here | assumption | apply Pick.there)))) rfl ?_
  rintro _ _ ⟨rfl, rfl⟩
  refine RL.val (Wanted.free rfl) (V.pick_false rfl rfl rfl) rfl ?_
  refine RL.val (Wanted.free rfl) (V.move rfl rfl) rfl ?_
  refine RL.val (Wanted.yes rfl rfl rfl rfl) (V.move rfl rfl) rfl ?_
  refine RL.val (Wanted.yes rfl rfl rfl rfl) (V.len rfl rfl el32.under rfl) rfl ?_
  refine RL.cmpF (Wanted.yes rfl rfl rfl rfl) (V.bin rfl rfl rfl B.neq) rfl (by decide) ?_
  refine RL.val (Wanted.free rfl) (V.pick_false rfl rfl rfl) rfl ?_
  refine RL.nil ?_
  refine SG.cond_false rfl ?_
  refine SG.skip ?_
  refine SG.seq ?_
  refine SG.region ?_
  refine RL.val (Wanted.free rfl) (V.move rfl rfl) rfl ?_
  refine RL.eff (Wanted.free rfl) (E.call rfl go23 rfl (full_ok 9)) rfl ?_
  rintro _ _ ⟨a135, c135, rfl, rfl⟩
  refine RL.publish (T := R8) (a := a135) Pick.here ?_
  refine RL.eff (Wanted.free rfl) (E.call rfl go22 rfl (sameBytes_true (by first | (apply Seen.sl; (· repeat (first | exact List.Mem.head _ | assumption | apply List.Mem.tail))) | (apply Seen.buf; (· repeat (first | exact Pick.here | apply Pick.there)))) (by first | (apply Seen.sl; (· repeat (first | exact List.Mem.head _ | assumption | apply List.Mem.tail))) | (apply Seen.buf; (· repeat (first | exact Pick.here | apply Pick.there)))) rfl)) rfl ?_
  rintro _ _ ⟨rfl, rfl⟩
  refine RL.val (Wanted.free rfl) (V.move rfl rfl) rfl ?_
  refine RL.val (Wanted.yes rfl rfl rfl rfl) (V.move rfl rfl) rfl ?_
  refine RL.val (Wanted.yes rfl rfl rfl rfl) (V.indexBuf (j := 9) rfl el32.slice rfl rfl (by repeat (first | exact Pick.here | assumption | apply Pick.there)) (by first | rfl | omega) (by decide +kernel)) rfl ?_
  refine RL.val (Wanted.yes rfl rfl rfl rfl) (V.loadBufSc (y := 9) rfl on5 rfl (by repeat (first | exact Pick.here | assumption | apply Pick.there)) (by decide +kernel)) rfl ?_
  refine RL.cmpT (Wanted.yes rfl rfl rfl rfl) (V.bin rfl rfl rfl B.eql) rfl (by decide) ?_
  refine RL.val (Wanted.free rfl) (V.pick_true rfl rfl rfl) rfl ?_
  refine RL.val (Wanted.free rfl) (V.move rfl rfl) rfl ?_
  refine RL.val (Wanted.yes rfl rfl rfl rfl) (V.move rfl rfl) rfl ?_
  refine RL.val (Wanted.yes rfl rfl rfl rfl) (V.indexBuf (j := 10) rfl el32.slice rfl rfl (by repeat (first | exact Pick.here | assumption | apply Pick.there)) (by first | rfl | omega) (by decide +kernel)) rfl ?_
  refine RL.val (Wanted.yes rfl rfl rfl rfl) (V.loadBufSc (y := 8) rfl on5 rfl (by repeat (first | exact Pick.here | assumption | apply Pick.there)) (by decide +kernel)) rfl ?_
  refine RL.cmpT (Wanted.yes rfl rfl rfl rfl) (V.bin rfl rfl rfl B.eql) rfl (by decide) ?_
  refine RL.val (Wanted.free rfl) (V.pick_true rfl rfl rfl) rfl ?_
  refine RL.val (Wanted.free rfl) (V.move rfl rfl) rfl ?_
  refine RL.val (Wanted.yes rfl rfl rfl rfl) (V.move rfl rfl) rfl ?_
  refine RL.eff (Wanted.yes rfl rfl rfl rfl) (E.call rfl go23 rfl (full_ok 7)) rfl ?_
  rintro _ _ ⟨a151, c151, rfl, rfl⟩
  refine RL.publish (T := R8) (a := a151) Pick.here ?_
  refine RL.eff (Wanted.yes rfl rfl rfl rfl) (E.call rfl go22 rfl (sameBytes_true (by first | (apply Seen.sl; (· repeat (first | exact List.Mem.head _ | assumption | apply List.Mem.tail))) | (apply Seen.buf; (· repeat (first | exact Pick.here | apply Pick.there)))) (by first | (apply Seen.sl; (· repeat (first | exact List.Mem.head _ | assumption | apply List.Mem.tail))) | (apply Seen.buf; (· repeat (first | exact Pick.here | apply Pick.there)))) rfl)) rfl ?_
  rintro _ _ ⟨rfl, rfl⟩
  refine RL.val (Wanted.free rfl) (V.pick_true rfl rfl rfl) rfl ?_
  refine RL.val (Wanted.free rfl) (V.move rfl rfl) rfl ?_
  refine RL.val (Wanted.yes rfl rfl rfl rfl) (V.move rfl rfl) rfl ?_
  refine RL.ent (Sl.nil (T := R8)) ?_
  refine RL.eff (Wanted.yes rfl rfl rfl rfl) (E.call rfl go31 rfl (dWrite_ok lw4_ok (by repeat (first | exact Pick.here | assumption | apply Pick.there)) _ (s := []) (by repeat (first | exact List.Mem.head _ | assumption | apply List.Mem.tail)) (by decide))) rfl ?_
  rintro _ _ ⟨rfl, rfl⟩
  refine RL.cmpT (Wanted.yes rfl rfl rfl rfl) (V.bin rfl rfl rfl B.eql) rfl (by decide +kernel) ?_
  refine RL.val (Wanted.free rfl) (V.pick_true rfl rfl rfl) rfl ?_
  refine RL.val (Wanted.free rfl) (V.move rfl rfl) rfl ?_
  refine RL.val (Wanted.yes rfl rfl rfl rfl) (V.move rfl rfl) rfl ?_
  refine RL.eff (Wanted.yes rfl rfl rfl rfl) (E.call rfl go23 rfl (full_ok 1)) rfl ?_
  rintro _ _ ⟨a161, c161, rfl, rfl⟩
  refine RL.publish (T := R8) (a := a161) Pick.here ?_
  refine RL.eff (Wanted.yes rfl rfl rfl rfl) (E.call rfl go31 rfl (dWrite_ok (lw4_ok.write 0 []) (by repeat (first | exact Pick.here | assumption | apply Pick.there)) _ (s := by64 1) (by repeat (first | exact List.Mem.head _ | assumption | apply List.Mem.tail)) (by decide))) rfl ?_
  rintro _ _ ⟨rfl, rfl⟩
  refine RL.cmpT (Wanted.yes rfl rfl rfl rfl) (V.bin rfl rfl rfl B.eql) rfl (by decide +kernel) ?_
  refine RL.val (Wanted.free rfl) (V.pick_true rfl rfl rfl) rfl ?_
  refine RL.val (Wanted.free rfl) (V.assign rfl rfl) rfl ?_
  refine RL.nil ?_
  refine SG.retE (Ret.r1 Try.func17 rfl (.tmp rfl)) ?_ ⟨rfl, rfl⟩
  repeat (first | exact Ent.refl _ | (apply Ent.cons; (· repeat (first | exact Pick.here | (refine Pick.sl ?_; (· repeat (first | exact List.Mem.head _ | assumption | apply List.Mem.tail))) | apply Pick.there))) | (refine Ent.trans (Ent.drop _ _) ?_))

end Go.Proofs.Yteghgfgkkpfcaaa
