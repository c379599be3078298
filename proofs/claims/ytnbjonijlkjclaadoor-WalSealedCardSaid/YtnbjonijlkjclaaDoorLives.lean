/- The examples. -/
import Derived.Test.YtnbjonijlkjclaaDoorWbase
namespace Go.Proofs.YtnbjonijlkjclaaDoor
open Go.Wk Go.Wl Go.Dsk

def lv0 : Dk := fresh 104
def lv1 : Dk := (fmtR lv0 0 4).1
def lv2 : Dk := (fmtR lv1 4 100).1
theorem lv0_calm : lv0.calm := fresh_calm _
theorem lv0_chk : checkV lv0 0 4 = 0 := checkV_zero.2 ⟨by decide, by decide, by rw [lv0, fresh_len]; decide, by rw [lv0, fresh_len]; decide, rfl⟩
theorem lv0_fmt : (fmtR lv0 0 4).2 = 0 ∧ To lv0 lv1 (fun j => if j = 0 + 1 then putS 1 0 else if 0 ≤ j ∧ j < 0 + 4 then zsec else nowI lv0 j) := fmt_calm lv0_calm lv0_chk
theorem lv1_len : lv1.S.length = 104 := lv0_fmt.2.len.trans (fresh_len 104)
theorem lv1_now {j : Int} (h : 4 ≤ j) (h1 : j < 104) : nowI lv1 j = zsec := by
  rw [lv0_fmt.2.now j (by omega) (by rw [lv0, fresh_len]; omega), if_neg (by omega), if_neg (by omega)]
  exact fresh_now (by omega) (by omega)
theorem lv1_nw : nwE lv1 4 = 7 := nw_zero (lv1_now (by decide) (by decide)) (lv1_now (by decide) (by decide))
theorem lv1_chk : checkV lv1 4 100 = 0 := checkV_zero.2 ⟨by decide, by decide, by rw [lv1_len]; decide, by rw [lv1_len]; decide, lv0_fmt.2.calm.off⟩
theorem lv1_fmt : (fmtR lv1 4 100).2 = 0 ∧ To lv1 lv2 (fun j => if j = 4 + 1 then putS 1 0 else if 4 ≤ j ∧ j < 4 + 100 then zsec else nowI lv1 j) := fmt_calm lv0_fmt.2.calm lv1_chk
theorem lv2_off : lv2.off = false := lv1_fmt.2.calm.off
theorem lv2_chk : checkV lv2 0 3 = 5 := if_pos (.inl (by decide))
def z100 : List UInt8 := List.replicate 100 0
def z4 : List UInt8 := List.replicate 4 0
def lg1 : Lg := lg0 0 4 1 0
def lg2 : Lg := { lg1 with data := lg1.data ++ leb 4 z100.length ++ z100, recs := lg1.recs ++ [z100], used := lg1.used + (z100.length + 12) }
def lg3 : Lg := { lg2 with data := lg2.data ++ leb 4 z4.length ++ z4, recs := lg2.recs ++ [z4], used := lg2.used + (z4.length + 12) }
theorem r1 : roomV lg1 = 116 := by decide
theorem rm : roomV (lg0 4 100 1 0) = 4000 := by decide
theorem z100_len : z100.length = 100 := by simp [z100]
theorem z4_len : z4.length = 4 := by simp [z4]
theorem u2 : lg2.used = 112 := by show (0 : Int) + (z100.length + 12) = 112; rw [z100_len]; decide
theorem u3 : lg3.used = 128 := by show lg2.used + (z4.length + 12) = 128; rw [u2, z4_len]; decide
theorem r2 : roomV lg2 = 4 := by unfold roomV; rw [u2]; decide
theorem r3 : roomV lg3 = -1 := by unfold roomV; rw [u3]; decide
theorem e1 : appE lg1 lv2 z100 = 0 := appE_ok (by rw [z100_len]; decide) (by rw [r1, z100_len]; decide) lv2_off
theorem e2 : appE lg2 lv2 z4 = 0 := appE_ok (by rw [z4_len]; decide) (by rw [r2, z4_len]; decide) lv2_off
theorem e3 : appE lg3 lv2 [] = 9 := by unfold appE; rw [if_neg (by decide), if_pos (by rw [r3]; decide)]
theorem a1 : appL lg1 lv2 z100 = lg2 := appL_ok e1
theorem a2 : appL lg2 lv2 z4 = lg3 := appL_ok e2
theorem a3 : appL lg3 lv2 [] = lg3 := appL_err e3 (by decide)
theorem k1 : LgOk lg1 := lg0_ok (by decide) (by decide) (by decide) (by decide) 1
theorem km : LgOk (lg0 4 100 1 0) := lg0_ok (n := 100) (by decide) (by decide) (by decide) (by decide) 1
theorem d2 : lg2.data.length = 104 := by show (([] : List UInt8) ++ leb 4 z100.length ++ z100).length = 104; rw [List.length_append, List.length_append, leb_len, z100_len]; rfl
theorem k2 : LgOk lg2 := LgOk.app k1 (by rw [z100_len]; decide) (by show 0 ≤ 9000000; decide) (by show 0 ≤ 9000000; decide) (by show (0 : Int) ≤ 90000000; decide)
theorem k3 : LgOk lg3 := LgOk.app k2 (by rw [z4_len]; decide) (by rw [d2]; decide) (by show 1 ≤ 9000000; decide) (by rw [u2]; decide)
theorem n3 : lg3.recs = [z100, z4] := rfl
theorem lv0_ok : lv0.ok 1 := fresh_ok (by decide) (by decide)
theorem zloop_ok (f : Int) : ∀ (k i m : Nat) {D : Dk}, D.ok m → (zloop f D i k).1.ok (m + k)
  | 0, _, _, _, h => h
  | k + 1, i, m, D, h => by
    rw [zloop]; split
    · exact h.mono (by omega)
    · rw [show m + (k + 1) = (m + 1) + k from by omega]; exact zloop_ok f k (i + 1) (m + 1) (h.write _ _)
theorem fmtR_ok {D : Dk} {m : Nat} (h : D.ok m) (hm : 1 ≤ m) (f n : Int) : (fmtR D f n).1.ok (m + n.toNat + 1) := by
  have hz := zloop_ok f n.toNat 0 m h
  unfold fmtR
  split
  · exact h.mono (by omega)
  split
  · exact hz.mono (by omega)
  split
  · exact (hz.flush (by omega)).mono (by omega)
  · exact putD_ok (hz.flush (by omega)) _ _ _
theorem lv1_ok : lv1.ok 6 := fmtR_ok lv0_ok (by decide) 0 4
theorem lv2_ok : lv2.ok 107 := fmtR_ok lv1_ok (by decide) 4 100
set_option maxRecDepth 100000 in
set_option maxHeartbeats 2000000 in
theorem lives_ok {κ : World} {L : List Assn}  :
    Ctr Tryd.prog 21 #[] κ L (fun v M => v = vB true ∧ M = L) := by
 refine Ctr.enter (vs := []) (m := 104) Tryd.func21 rfl rfl rfl ?_
 refine SG.seq ?_
 refine SG.region ?_
 refine RL.val (Wanted.free rfl) (V.assign rfl rfl) rfl ?_
 refine RL.nil ?_
 refine SG.seq ?_
 refine SG.region ?_
 refine RL.eff (Wanted.free rfl) (E.call rfl go22 rfl (made_ok (n := 104) (by decide) (by decide))) rfl ?_
 rintro _ _ ⟨b1, rfl, rfl⟩
 rw [show fresh 104 = lv0 from rfl]
 refine RL.val (Wanted.free rfl) (V.assign rfl rfl) rfl ?_
 refine RL.nil ?_
 refine SG.seq ?_
 refine SG.seq ?_
 refine SG.region ?_
 refine RL.val (Wanted.free rfl) (V.move rfl rfl) rfl ?_
 refine RL.cmpF (Wanted.free rfl) (V.eqlPtrNil rfl up27 rfl rfl) rfl (by simp) ?_
 refine RL.nil ?_
 refine SG.cond_false rfl ?_
 refine SG.skip ?_
 refine SG.seq ?_
 refine SG.region ?_
 refine RL.val (Wanted.free rfl) (V.move rfl rfl) rfl ?_
 refine RL.eff (Wanted.free rfl) (E.call rfl go23 rfl (format_good lv0_ok (by decide) (by decide) (db := b1) pickX (by unfold inInt; decide) (by unfold inInt; decide) lv0_fmt.1)) rfl ?_
 rintro _ _ ⟨b2, rfl, rfl⟩
 rw [show (fmtR lv0 0 4).1 = lv1 from rfl, show lg0 0 4 1 0 = lg1 from rfl]
 refine RL.val (Wanted.free rfl) (V.move rfl rfl) rfl ?_
 refine RL.val (Wanted.free rfl) (V.extract rfl rfl rfl) rfl ?_
 refine RL.val (Wanted.free rfl) (V.extract rfl rfl rfl) rfl ?_
 refine RL.val (Wanted.free rfl) (V.assign rfl rfl) rfl ?_
 refine RL.val (Wanted.free rfl) (V.assign rfl rfl) rfl ?_
 refine RL.nil ?_
 refine SG.seq ?_
 refine SG.region ?_
 refine RL.val (Wanted.free rfl) (V.move rfl rfl) rfl ?_
 refine RL.eff (Wanted.free rfl) (E.call rfl go15 rfl (open_form lv1_ok (by decide) (db := b1) pickX (by unfold inInt; decide) (by unfold inInt; decide) lv1_chk (by rw [lv1_nw]; decide))) rfl ?_
 rintro _ _ ⟨rfl, rfl⟩
 rw [lv1_nw]
 refine RL.val (Wanted.free rfl) (V.move rfl rfl) rfl ?_
 refine RL.val (Wanted.free rfl) (V.extract rfl rfl rfl) rfl ?_
 refine RL.val (Wanted.free rfl) (V.extract rfl rfl rfl) rfl ?_
 refine RL.val (Wanted.free rfl) (V.assign rfl rfl) rfl ?_
 refine RL.val (Wanted.free rfl) (V.assign rfl rfl) rfl ?_
 refine RL.nil ?_
 refine SG.seq ?_
 refine SG.region ?_
 refine RL.val (Wanted.free rfl) (V.move rfl rfl) rfl ?_
 refine RL.eff (Wanted.free rfl) (E.call rfl go23 rfl (format_good lv1_ok (by decide) (by decide) (db := b1) pickX (by unfold inInt; decide) (by unfold inInt; decide) lv1_fmt.1)) rfl ?_
 rintro _ _ ⟨b6, rfl, rfl⟩
 rw [show (fmtR lv1 4 100).1 = lv2 from rfl]
 refine RL.val (Wanted.free rfl) (V.move rfl rfl) rfl ?_
 refine RL.val (Wanted.free rfl) (V.extract rfl rfl rfl) rfl ?_
 refine RL.val (Wanted.free rfl) (V.extract rfl rfl rfl) rfl ?_
 refine RL.val (Wanted.free rfl) (V.assign rfl rfl) rfl ?_
 refine RL.val (Wanted.free rfl) (V.assign rfl rfl) rfl ?_
 refine RL.nil ?_
 refine SG.seq ?_
 refine SG.region ?_
 refine RL.val (Wanted.free rfl) (V.move rfl rfl) rfl ?_
 refine RL.eff (Wanted.free rfl) (E.call rfl go23 rfl (format_bad lv2_ok (by decide) (by decide) (db := b1) pickX (by unfold inInt; decide) (by unfold inInt; decide) (by rw [lv2_chk]; decide))) rfl ?_
 rintro _ _ ⟨rfl, rfl⟩
 rw [lv2_chk]
 refine RL.val (Wanted.free rfl) (V.move rfl rfl) rfl ?_
 refine RL.val (Wanted.free rfl) (V.extract rfl rfl rfl) rfl ?_
 refine RL.val (Wanted.free rfl) (V.extract rfl rfl rfl) rfl ?_
 refine RL.val (Wanted.free rfl) (V.assign rfl rfl) rfl ?_
 refine RL.val (Wanted.free rfl) (V.assign rfl rfl) rfl ?_
 refine RL.nil ?_
 refine SG.seq ?_
 refine SG.seq ?_
 refine SG.region ?_
 refine RL.val (Wanted.free rfl) (V.move rfl rfl) rfl ?_
 refine RL.cmpF (Wanted.free rfl) (V.eqlPtrNil rfl up28 rfl rfl) rfl (by simp) ?_
 refine RL.val (Wanted.free rfl) (V.move rfl rfl) rfl ?_
 refine RL.val (Wanted.yes rfl rfl rfl rfl) (V.move rfl rfl) rfl ?_
 refine RL.cmpF (Wanted.yes rfl rfl rfl rfl) (V.eqlPtrNil rfl up28 rfl rfl) rfl (by simp) ?_
 refine RL.val (Wanted.free rfl) (V.pick_false rfl rfl rfl) rfl ?_
 refine RL.val (Wanted.free rfl) (V.move rfl rfl) rfl ?_
 refine RL.val (Wanted.yes rfl rfl rfl rfl) (V.move rfl rfl) rfl ?_
 refine RL.cmpF (Wanted.yes rfl rfl rfl rfl) (V.bin rfl rfl rfl B.neq) rfl (by simp) ?_
 refine RL.val (Wanted.free rfl) (V.pick_false rfl rfl rfl) rfl ?_
 refine RL.val (Wanted.free rfl) (V.move rfl rfl) rfl ?_
 refine RL.val (Wanted.yes rfl rfl rfl rfl) (V.move rfl rfl) rfl ?_
 refine RL.cmpF (Wanted.yes rfl rfl rfl rfl) (V.bin rfl rfl rfl B.neq) rfl (by simp) ?_
 refine RL.val (Wanted.free rfl) (V.pick_false rfl rfl rfl) rfl ?_
 refine RL.val (Wanted.free rfl) (V.move rfl rfl) rfl ?_
 refine RL.val (Wanted.yes rfl rfl rfl rfl) (V.move rfl rfl) rfl ?_
 refine RL.cmpF (Wanted.yes rfl rfl rfl rfl) (V.bin rfl rfl rfl B.neq) rfl (by simp) ?_
 refine RL.val (Wanted.free rfl) (V.pick_false rfl rfl rfl) rfl ?_
 refine RL.val (Wanted.free rfl) (V.move rfl rfl) rfl ?_
 refine RL.val (Wanted.yes rfl rfl rfl rfl) (V.move rfl rfl) rfl ?_
 refine RL.cmpF (Wanted.yes rfl rfl rfl rfl) (V.bin rfl rfl rfl B.neq) rfl (by simp) ?_
 refine RL.val (Wanted.free rfl) (V.pick_false rfl rfl rfl) rfl ?_
 refine RL.nil ?_
 refine SG.cond_false rfl ?_
 refine SG.skip ?_
 refine SG.seq ?_
 refine SG.region ?_
 refine RL.val (Wanted.free rfl) (V.move rfl rfl) rfl ?_
 refine RL.eff (Wanted.free rfl) (E.call rfl go9 rfl (lRoom_ok k1 pickX)) rfl ?_
 rintro _ _ ⟨rfl, rfl⟩
 refine RL.cmpT (Wanted.free rfl) (V.bin rfl rfl rfl B.eql) rfl r1 ?_
 refine RL.val (Wanted.free rfl) (V.move rfl rfl) rfl ?_
 refine RL.val (Wanted.yes rfl rfl rfl rfl) (V.move rfl rfl) rfl ?_
 refine RL.eff (Wanted.yes rfl rfl rfl rfl) (E.call rfl go9 rfl (lRoom_ok km pickX)) rfl ?_
 rintro _ _ ⟨rfl, rfl⟩
 refine RL.cmpT (Wanted.yes rfl rfl rfl rfl) (V.bin rfl rfl rfl B.eql) rfl rm ?_
 refine RL.val (Wanted.free rfl) (V.pick_true rfl rfl rfl) rfl ?_
 refine RL.val (Wanted.free rfl) (V.assign rfl rfl) rfl ?_
 refine RL.nil ?_
 refine SG.seq ?_
 refine SG.region ?_
 refine RL.val (Wanted.free rfl) (V.move rfl rfl) rfl ?_
 refine RL.val (Wanted.free rfl) (V.move rfl rfl) rfl ?_
 refine RL.val (Wanted.yes rfl rfl rfl rfl) (V.move rfl rfl) rfl ?_
 refine RL.eff (Wanted.yes rfl rfl rfl rfl) (E.make (T := R8) (m := 100) (z0 := .int .u8 0) (x0 := 0) rfl el34 ze5 rfl rfl rfl (by decide) (by decide) (fun _ => ⟨rfl, trivial⟩)) rfl ?_
 rintro _ _ ⟨b67, rfl, rfl⟩
 refine RL.publish (T := R8) Pick.here ?_
 rw [show List.replicate 100 (0 : UInt8) = z100 from rfl]
 refine RL.eff (Wanted.yes rfl rfl rfl rfl) (E.call rfl go11 rfl (lAppend_ok k1 (b := b2) pickX lv2_ok pickX (rec := z100) memX)) rfl ?_
 rintro _ _ ⟨rfl, rfl⟩
 rw [e1, a1]
 refine RL.cmpT (Wanted.yes rfl rfl rfl rfl) (V.bin rfl rfl rfl B.eql) rfl rfl ?_
 refine RL.val (Wanted.free rfl) (V.pick_true rfl rfl rfl) rfl ?_
 refine RL.val (Wanted.free rfl) (V.move rfl rfl) rfl ?_
 refine RL.val (Wanted.yes rfl rfl rfl rfl) (V.move rfl rfl) rfl ?_
 refine RL.eff (Wanted.yes rfl rfl rfl rfl) (E.call rfl go9 rfl (lRoom_ok k2 pickX)) rfl ?_
 rintro _ _ ⟨rfl, rfl⟩
 refine RL.cmpT (Wanted.yes rfl rfl rfl rfl) (V.bin rfl rfl rfl B.eql) rfl r2 ?_
 refine RL.val (Wanted.free rfl) (V.pick_true rfl rfl rfl) rfl ?_
 refine RL.val (Wanted.free rfl) (V.move rfl rfl) rfl ?_
 refine RL.val (Wanted.yes rfl rfl rfl rfl) (V.move rfl rfl) rfl ?_
 refine RL.eff (Wanted.yes rfl rfl rfl rfl) (E.make (T := R8) (m := 4) (z0 := .int .u8 0) (x0 := 0) rfl el34 ze5 rfl rfl rfl (by decide) (by decide) (fun _ => ⟨rfl, trivial⟩)) rfl ?_
 rintro _ _ ⟨b78, rfl, rfl⟩
 refine RL.publish (T := R8) Pick.here ?_
 rw [show List.replicate 4 (0 : UInt8) = z4 from rfl]
 refine RL.eff (Wanted.yes rfl rfl rfl rfl) (E.call rfl go11 rfl (lAppend_ok k2 (b := b2) pickX lv2_ok pickX (rec := z4) memX)) rfl ?_
 rintro _ _ ⟨rfl, rfl⟩
 rw [e2, a2]
 refine RL.cmpT (Wanted.yes rfl rfl rfl rfl) (V.bin rfl rfl rfl B.eql) rfl rfl ?_
 refine RL.val (Wanted.free rfl) (V.pick_true rfl rfl rfl) rfl ?_
 refine RL.val (Wanted.free rfl) (V.move rfl rfl) rfl ?_
 refine RL.val (Wanted.yes rfl rfl rfl rfl) (V.move rfl rfl) rfl ?_
 refine RL.eff (Wanted.yes rfl rfl rfl rfl) (E.call rfl go9 rfl (lRoom_ok k3 pickX)) rfl ?_
 rintro _ _ ⟨rfl, rfl⟩
 refine RL.cmpT (Wanted.yes rfl rfl rfl rfl) (V.bin rfl rfl rfl B.eql) rfl r3 ?_
 refine RL.val (Wanted.free rfl) (V.pick_true rfl rfl rfl) rfl ?_
 refine RL.val (Wanted.free rfl) (V.assign rfl rfl) rfl ?_
 refine RL.nil ?_
 refine SG.seq ?_
 refine SG.ent (Sl.nil (T := R8)) ?_
 refine SG.region ?_
 refine RL.val (Wanted.free rfl) (V.move rfl rfl) rfl ?_
 refine RL.val (Wanted.free rfl) (V.move rfl rfl) rfl ?_
 refine RL.val (Wanted.yes rfl rfl rfl rfl) (V.move rfl rfl) rfl ?_
 refine RL.eff (Wanted.yes rfl rfl rfl rfl) (E.call rfl go11 rfl (lAppend_ok k3 (b := b2) pickX lv2_ok pickX (rec := []) memX)) rfl ?_
 rintro _ _ ⟨rfl, rfl⟩
 rw [e3, a3]
 refine RL.cmpT (Wanted.yes rfl rfl rfl rfl) (V.bin rfl rfl rfl B.eql) rfl rfl ?_
 refine RL.val (Wanted.free rfl) (V.pick_true rfl rfl rfl) rfl ?_
 refine RL.val (Wanted.free rfl) (V.move rfl rfl) rfl ?_
 refine RL.val (Wanted.yes rfl rfl rfl rfl) (V.move rfl rfl) rfl ?_
 refine RL.eff (Wanted.yes rfl rfl rfl rfl) (E.call rfl go16 rfl (lRecs_ok k3 (b := b2) pickX (by rw [n3]; intro r hr; simp only [List.mem_cons, List.not_mem_nil, or_false] at hr; rcases hr with rfl | rfl; (· rw [z100_len]; decide); (· rw [z4_len]; decide)))) rfl ?_
 rintro _ _ ⟨a95, c95, rfl, rfl⟩
 refine RL.val (Wanted.yes rfl rfl rfl rfl) (V.len rfl rfl el22.under rfl) rfl ?_
 refine RL.cmpT (Wanted.yes rfl rfl rfl rfl) (V.bin rfl rfl rfl B.eql) rfl rfl ?_
 refine RL.val (Wanted.free rfl) (V.pick_true rfl rfl rfl) rfl ?_
 refine RL.val (Wanted.free rfl) (V.move rfl rfl) rfl ?_
 refine RL.val (Wanted.yes rfl rfl rfl rfl) (V.move rfl rfl) rfl ?_
 refine RL.eff (Wanted.yes rfl rfl rfl rfl) (E.call rfl go43 rfl (lSynced_ok k3 (b := b2) pickX)) rfl ?_
 rintro _ _ ⟨rfl, rfl⟩
 refine RL.cmpT (Wanted.yes rfl rfl rfl rfl) (V.bin rfl rfl rfl B.leq) rfl (by show (0 : Int) ≤ 2; decide) ?_
 refine RL.val (Wanted.free rfl) (V.pick_true rfl rfl rfl) rfl ?_
 refine RL.val (Wanted.free rfl) (V.assign rfl rfl) rfl ?_
 refine RL.nil ?_
 refine SG.retE (Ret.r1 Tryd.func21 rfl (.tmp rfl)) ?_ ⟨rfl, rfl⟩
 exact entX

end Go.Proofs.YtnbjonijlkjclaaDoor
