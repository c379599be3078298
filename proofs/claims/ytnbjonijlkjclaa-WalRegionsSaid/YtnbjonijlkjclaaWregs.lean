/- The walk of WalRegions. -/
import Derived.Test.YtnbjonijlkjclaaWbase2
namespace Go.Proofs.Ytnbjonijlkjclaa
open Go.Wk Go.Wl Go.Dsk

theorem sameb_rd {κ : World} {L : List Assn} {a a' : Option Addr} {m c m' c' : Nat} {l l' : List UInt8} (h1 : Seen (SlP R8 a m c l) L) (h2 : Seen (SlP R8 a' m' c' l') L) : Ctr Try.prog 38 #[.slice a m c, .slice a' m' c'] κ L (fun v M => v = vB (decide (l = l')) ∧ M = L) :=
  Ctr.read0 (Rs := [SlP R8 a m c l, SlP R8 a' m' c' l']) (by simp [h1, h2]) fun _ hL => sameBytes_ok (hL _ (by simp)) (hL _ (by simp))
set_option maxRecDepth 100000 in
set_option maxHeartbeats 2000000 in
theorem regions_law {κ : World} {L : List Assn} {fz : Int} {a aw at_ : Option Addr} {n0 c nw cw nt ct : Nat} {l : List ActD} {ws : List Bool} {ts : List Int} (hf : inInt fz) (hm : Sl RAct a n0 c l ∈ L) (hmw : Sl RB aw nw cw ws ∈ L) (ht : Sl RI at_ nt ct ts ∈ L) :
    Ctr Try.prog 8 #[.slice a n0 c, .slice aw nw cw, vI fz, .slice at_ nt ct] κ L (fun v M => v = vB true ∧ M = L) := by
 refine Ctr.enter (vs := [.slice a n0 c, .slice aw nw cw, vI fz, .slice at_ nt ct]) (m := 230) Try.func8 rfl rfl rfl ?_
 refine SG.fact (fun w hs => Sep.slInts hs ht) fun hti => ?_
 refine SG.sl (T := RAct) (a := a) (l := l) memX fun hl hlc hc63 => ?_
 subst hl
 refine SG.sl (T := RB) (a := aw) (l := ws) memX fun hlw hlcw hc63w => ?_
 subst hlw
 refine SG.seq ?_
 refine SG.region ?_
 refine RL.val (Wanted.free rfl) (V.assign rfl rfl) rfl ?_
 refine RL.nil ?_
 refine SG.seq ?_
 obtain ⟨B7, hB7⟩ : ∃ B, bytesV (seedV 7) 64 = B := ⟨_, rfl⟩
 obtain ⟨B8, hB8⟩ : ∃ B, bytesV (seedV 8) 64 = B := ⟨_, rfl⟩
 have hl7 : B7.length = 64 := by rw [← hB7]; exact bytesV_length _ _
 have hl8 : B8.length = 64 := by rw [← hB8]; exact bytesV_length _ _
 refine SG.region ?_
 refine RL.eff (Wanted.free rfl) (E.call rfl go10 rfl (made_ok (n := 20) (by decide) (by decide))) rfl ?_
 rintro _ _ ⟨db, rfl, rfl⟩
 have hF0 := fresh_ok (n := 20) (by decide) (by decide)
 have hc0 := fresh_calm 20
 obtain ⟨e1, t1⟩ := calm_write hc0 (k := 0) (s := B7) (by decide) (by rw [fresh_len]; decide) hl7
 have hF1 := hF0.write 0 B7
 obtain ⟨D1, hD1⟩ : ∃ D1, (fresh 20).write 0 B7 = D1 := ⟨_, rfl⟩
 rw [hD1] at t1 hF1
 have hlen1 : D1.S.length = 20 := t1.len.trans (fresh_len 20)
 obtain ⟨e2, t2⟩ := calm_write t1.calm (k := 19) (s := B8) (by decide) (by rw [hlen1]; decide) hl8
 have hF2 := hF1.write 19 B8
 obtain ⟨D2, hD2⟩ : ∃ D2, D1.write 19 B8 = D2 := ⟨_, rfl⟩
 rw [hD2] at t2 hF2
 have hlen2 : D2.S.length = 20 := t2.len.trans hlen1
 obtain ⟨e3, t3⟩ := calm_flush t2.calm
 have hF3 := hF2.flush (by decide)
 have hz0 : D2.flush.at 0 = [B7] := by rw [at_flush D2 t2.calm.off (by decide) (by omega), t2.now 0 (by decide) (by omega), if_neg (by decide), t1.now 0 (by decide) (by rw [fresh_len]; decide), if_pos rfl]
 have hz19 : D2.flush.at 19 = [B8] := by rw [at_flush D2 t2.calm.off (by decide) (by omega), t2.now 19 (by decide) (by omega), if_pos rfl]
 obtain ⟨D3, hD3⟩ : ∃ D3, D2.flush = D3 := ⟨_, rfl⟩
 rw [hD3] at t3 hF3 hz0 hz19
 have hlen3 : D3.S.length = 20 := t3.len.trans hlen2
 have hv3 : checkV D3 1 9 = 0 := checkV_zero.2 ⟨by decide, by decide, by omega, by omega, t3.calm.off⟩
 obtain ⟨f4, t4⟩ := fmt_calm t3.calm hv3
 have q4 := fmt_frm t3.calm hv3
 have P4 := Pst.format hF3 (by decide) t3.calm hv3 (by decide) (by decide)
 obtain ⟨D4, hD4⟩ : ∃ D4, (fmtR D3 1 9).1 = D4 := ⟨_, rfl⟩
 rw [hD4] at t4 q4 P4
 have hlen4 : D4.S.length = 20 := t4.len.trans hlen3
 have hv4 : checkV D4 10 9 = 0 := checkV_zero.2 ⟨by decide, by decide, by omega, by omega, t4.calm.off⟩
 obtain ⟨f5, t5⟩ := fmt_calm t4.calm hv4
 have q5 := fmt_frm t4.calm hv4
 have P5 := Pst.format P4.ok P4.m1 t4.calm hv4 (by decide) (by decide)
 obtain ⟨D5, hD5⟩ : ∃ D5, (fmtR D4 10 9).1 = D5 := ⟨_, rfl⟩
 rw [hD5] at t5 q5 P5
 have hlen5 : D5.S.length = 20 := t5.len.trans hlen4
 have P6 := P4.beside t4.calm.off q5 (hlen5.trans hlen4.symm) P5.ok P5.m1 (by decide)
 have hw0 := q5.one (by decide) (by decide) (q4.one (by decide) (by decide) hz0)
 have hw19 := q5.one (by decide) (by decide) (q4.one (by decide) (by decide) hz19)
 refine RL.val (Wanted.free rfl) (V.assign rfl rfl) rfl ?_
 refine RL.nil ?_
 refine SG.seq ?_
 refine SG.seq ?_
 refine SG.region ?_
 refine RL.val (Wanted.free rfl) (V.move rfl rfl) rfl ?_
 refine RL.cmpF (Wanted.free rfl) (V.eqlPtrNil rfl up23 rfl rfl) rfl (by simp) ?_
 refine RL.val (Wanted.free rfl) (V.move rfl rfl) rfl ?_
 refine RL.val (Wanted.yes rfl rfl rfl rfl) (V.move rfl rfl) rfl ?_
 refine RL.eff (Wanted.yes rfl rfl rfl rfl) (E.call rfl go25 rfl (bytes_ok (n := 64) (by decide))) rfl ?_
 rintro _ _ ⟨a34, c34, rfl, rfl⟩
 rw [hB7]
 refine RL.publish (T := R8) (a := a34) Pick.here ?_
 refine RL.eff (Wanted.yes rfl rfl rfl rfl) (E.call rfl go33 rfl (dWrite_ok hF0 (b := db) pickX 0 (s := B7) memX (by decide))) rfl ?_
 rintro _ _ ⟨rfl, rfl⟩
 rw [hD1, e1]
 refine RL.cmpF (Wanted.yes rfl rfl rfl rfl) (V.bin rfl rfl rfl B.neq) rfl (by simp) ?_
 refine RL.val (Wanted.free rfl) (V.pick_false rfl rfl rfl) rfl ?_
 refine RL.val (Wanted.free rfl) (V.move rfl rfl) rfl ?_
 refine RL.val (Wanted.yes rfl rfl rfl rfl) (V.move rfl rfl) rfl ?_
 refine RL.eff (Wanted.yes rfl rfl rfl rfl) (E.call rfl go25 rfl (bytes_ok (n := 64) (by decide))) rfl ?_
 rintro _ _ ⟨a40, c40, rfl, rfl⟩
 rw [hB8]
 refine RL.publish (T := R8) (a := a40) Pick.here ?_
 refine RL.eff (Wanted.yes rfl rfl rfl rfl) (E.call rfl go33 rfl (dWrite_ok hF1 (b := db) pickX 19 (s := B8) memX (by decide))) rfl ?_
 rintro _ _ ⟨rfl, rfl⟩
 rw [hD2, e2]
 refine RL.cmpF (Wanted.yes rfl rfl rfl rfl) (V.bin rfl rfl rfl B.neq) rfl (by simp) ?_
 refine RL.val (Wanted.free rfl) (V.pick_false rfl rfl rfl) rfl ?_
 refine RL.val (Wanted.free rfl) (V.move rfl rfl) rfl ?_
 refine RL.val (Wanted.yes rfl rfl rfl rfl) (V.move rfl rfl) rfl ?_
 refine RL.eff (Wanted.yes rfl rfl rfl rfl) (E.call rfl go34 rfl (dFlush_ok hF2 (b := db) pickX (by decide))) rfl ?_
 rintro _ _ ⟨rfl, rfl⟩
 rw [hD3, e3]
 refine RL.cmpF (Wanted.yes rfl rfl rfl rfl) (V.bin rfl rfl rfl B.neq) rfl (by simp) ?_
 refine RL.val (Wanted.free rfl) (V.pick_false rfl rfl rfl) rfl ?_
 refine RL.nil ?_
 refine SG.cond_false rfl ?_
 refine SG.skip ?_
 refine SG.seq ?_
 refine SG.region ?_
 refine RL.val (Wanted.free rfl) (V.move rfl rfl) rfl ?_
 refine RL.eff (Wanted.free rfl) (E.call rfl go15 rfl (format_good hF3 (by decide) (by decide) (db := db) pickX (by unfold inInt; decide) (by unfold inInt; decide) f4)) rfl ?_
 rintro _ _ ⟨la, rfl, rfl⟩
 rw [hD4]
 refine RL.val (Wanted.free rfl) (V.move rfl rfl) rfl ?_
 refine RL.val (Wanted.free rfl) (V.extract rfl rfl rfl) rfl ?_
 refine RL.val (Wanted.free rfl) (V.extract rfl rfl rfl) rfl ?_
 refine RL.val (Wanted.free rfl) (V.assign rfl rfl) rfl ?_
 refine RL.val (Wanted.free rfl) (V.assign rfl rfl) rfl ?_
 refine RL.nil ?_
 refine SG.seq ?_
 refine SG.region ?_
 refine RL.val (Wanted.free rfl) (V.move rfl rfl) rfl ?_
 refine RL.eff (Wanted.free rfl) (E.call rfl go15 rfl (format_good P4.ok P4.m1 (by decide) (db := db) pickX (by unfold inInt; decide) (by unfold inInt; decide) f5)) rfl ?_
 rintro _ _ ⟨lb, rfl, rfl⟩
 rw [hD5]
 refine RL.val (Wanted.free rfl) (V.move rfl rfl) rfl ?_
 refine RL.val (Wanted.free rfl) (V.extract rfl rfl rfl) rfl ?_
 refine RL.val (Wanted.free rfl) (V.extract rfl rfl rfl) rfl ?_
 refine RL.val (Wanted.free rfl) (V.assign rfl rfl) rfl ?_
 refine RL.val (Wanted.free rfl) (V.assign rfl rfl) rfl ?_
 refine RL.nil ?_
 refine SG.seq ?_
 refine SG.seq ?_
 refine SG.region ?_
 refine RL.val (Wanted.free rfl) (V.move rfl rfl) rfl ?_
 refine RL.cmpF (Wanted.free rfl) (V.bin rfl rfl rfl B.neq) rfl (by simp) ?_
 refine RL.val (Wanted.free rfl) (V.move rfl rfl) rfl ?_
 refine RL.val (Wanted.yes rfl rfl rfl rfl) (V.move rfl rfl) rfl ?_
 refine RL.cmpF (Wanted.yes rfl rfl rfl rfl) (V.bin rfl rfl rfl B.neq) rfl (by simp) ?_
 refine RL.val (Wanted.free rfl) (V.pick_false rfl rfl rfl) rfl ?_
 refine RL.val (Wanted.free rfl) (V.move rfl rfl) rfl ?_
 refine RL.val (Wanted.yes rfl rfl rfl rfl) (V.move rfl rfl) rfl ?_
 refine RL.cmpF (Wanted.yes rfl rfl rfl rfl) (V.eqlPtrNil rfl up31 rfl rfl) rfl (by simp) ?_
 refine RL.val (Wanted.free rfl) (V.pick_false rfl rfl rfl) rfl ?_
 refine RL.val (Wanted.free rfl) (V.move rfl rfl) rfl ?_
 refine RL.val (Wanted.yes rfl rfl rfl rfl) (V.move rfl rfl) rfl ?_
 refine RL.cmpF (Wanted.yes rfl rfl rfl rfl) (V.eqlPtrNil rfl up31 rfl rfl) rfl (by simp) ?_
 refine RL.val (Wanted.free rfl) (V.pick_false rfl rfl rfl) rfl ?_
 refine RL.nil ?_
 refine SG.cond_false rfl ?_
 refine SG.skip ?_
 refine SG.seq ?_
 refine SG.region ?_
 refine RL.val (Wanted.free rfl) (V.move rfl rfl) rfl ?_
 refine RL.val (Wanted.free rfl) (V.move rfl rfl) rfl ?_
 refine RL.val (Wanted.free rfl) (V.buildS [(0, _), (1, _), (2, _)] rfl bs51 (by exact ⟨rfl, ⟨_, rfl, rfl⟩, ⟨rfl, ⟨_, rfl, rfl⟩, ⟨rfl, ⟨_, rfl, rfl⟩, trivial⟩⟩⟩) rfl) rfl ?_
 refine RL.eff (Wanted.free rfl) (E.box [ptr db 0, ptr la 0, vI 9, .slice none 0 0, vI 0, vB false] rfl rfl rfl) rfl ?_
 rintro _ _ ⟨ba, rfl, rfl⟩
 refine RL.val (Wanted.free rfl) (V.assign rfl rfl) rfl ?_
 refine RL.nil ?_
 refine SG.seq ?_
 refine SG.region ?_
 refine RL.val (Wanted.free rfl) (V.move rfl rfl) rfl ?_
 refine RL.val (Wanted.free rfl) (V.move rfl rfl) rfl ?_
 refine RL.val (Wanted.free rfl) (V.buildS [(0, _), (1, _), (2, _)] rfl bs51 (by exact ⟨rfl, ⟨_, rfl, rfl⟩, ⟨rfl, ⟨_, rfl, rfl⟩, ⟨rfl, ⟨_, rfl, rfl⟩, trivial⟩⟩⟩) rfl) rfl ?_
 refine RL.eff (Wanted.free rfl) (E.box [ptr db 0, ptr lb 0, vI 9, .slice none 0 0, vI 0, vB false] rfl rfl rfl) rfl ?_
 rintro _ _ ⟨bb, rfl, rfl⟩
 refine RL.val (Wanted.free rfl) (V.assign rfl rfl) rfl ?_
 refine RL.nil ?_
 refine SG.seq ?_
 refine SG.region ?_
 refine RL.val (Wanted.free rfl) (V.move rfl rfl) rfl ?_
 refine RL.val (Wanted.free rfl) (V.move rfl rfl) rfl ?_
 refine RL.eff (Wanted.free rfl) (E.call rfl go9 rfl (around_ok _ _ hf.1 hf.2 (by omega))) rfl ?_
 rintro _ _ ⟨rfl, rfl⟩
 have hfz := aroundV_bd (n := fz) (most := 80) (by omega)
 obtain ⟨fu, hfu⟩ : ∃ fu, aroundV fz 80 = fu := ⟨_, rfl⟩
 rw [hfu] at hfz ⊢
 refine RL.eff (Wanted.free rfl) (E.call rfl go12 rfl (dFuse_ok P5.ok (b := db) pickX fu (by omega) (by omega))) rfl ?_
 rintro _ _ ⟨rfl, rfl⟩
 refine RL.nil ?_
 refine SG.seq ?_
 refine SG.seq ?_
 refine SG.ent (Buf.nil (T := Rep.slice R8) (e := 35)) ?_
 refine SG.ent (Past.ent (b := bb) (lb := lb) (db := db) (g := lg0 10 9 1 0) (rst := false) (xa := none) (xn := 0) (xc := 0) (by dsimp only [pc]; rw [lg0_n, lg0_synced, lg0_recs]; repeat (first | exact Ent.refl _ | (apply Ent.cons; (· repeat (first | exact Pick.here | (refine Pick.sl ?_; (· repeat (first | exact List.Mem.head _ | assumption | apply List.Mem.tail))) | apply Pick.there))) | (refine Ent.trans (Ent.drop _ _) ?_)))) ?_
 refine SG.ent (Buf.nil (T := Rep.slice R8) (e := 35)) ?_
 refine SG.ent (Past.ent (b := ba) (lb := la) (db := db) (g := lg0 1 9 1 0) (rst := false) (xa := none) (xn := 0) (xc := 0) (by dsimp only [pc]; rw [lg0_n, lg0_synced, lg0_recs]; repeat (first | exact Ent.refl _ | (apply Ent.cons; (· repeat (first | exact Pick.here | (refine Pick.sl ?_; (· repeat (first | exact List.Mem.head _ | assumption | apply List.Mem.tail))) | apply Pick.there))) | (refine Ent.trans (Ent.drop _ _) ?_)))) ?_
 refine SG.region ?_
 refine RL.val (Wanted.free rfl) (V.assign rfl rfl) rfl ?_
 refine RL.nil ?_
 refine SG.join (ι := Lg × Lg × Dk × Bool × Bool) (fun ⟨ga, gb, D, ra, rb⟩ => [(3, .slice at_ nt ct), (9, ptr db 0), (14, ptr ba 0), (15, ptr bb 0)]) (fun ⟨ga, gb, D, ra, rb⟩ => Past ba la db ga ra :: Past bb lb db gb rb :: Dsk db D :: L) (fun ⟨ga, gb, D, ra, rb⟩ => Pst 1 9 ga D 21 1000 ra ∧ Pst 10 9 gb D 21 1000 rb ∧ D.S.length = 20 ∧ D.at 0 = [B7] ∧ D.at 19 = [B8]) ?_ (fun rest => ?_)
 ·
  rintro ⟨ga, gb, D, ra, rb⟩ ⟨hA, hB, hlen, h0, h19⟩
  try dsimp only
  refine SG.seq ?_
  refine SG.region ?_
  refine RL.val (Wanted.free rfl) (V.move rfl rfl) rfl ?_
  refine RL.eff (Wanted.free rfl) (E.call rfl go12 rfl (dFuse_ok hA.ok (b := db) pickX 0 (by omega) (by omega))) rfl ?_
  rintro _ _ ⟨rfl, rfl⟩
  refine RL.nil ?_
  refine SG.seq ?_
  refine SG.region ?_
  refine RL.val (Wanted.free rfl) (V.move rfl rfl) rfl ?_
  refine RL.val (Wanted.free rfl) (V.move rfl rfl) rfl ?_
  refine RL.eff (Wanted.free rfl) (E.call rfl go31 rfl (torn_ok (l := ts) (a := at_) memX hti (by decide) (by decide))) rfl ?_
  rintro _ _ ⟨a122, m122, c122, us, rfl, rfl⟩
  refine RL.publish (T := RTorn) (a := a122) Pick.here ?_
  have hok1 := hA.ok.blow (n := 0) (by decide)
  have hok2 := hok1.restart hA.m1 us
  have hlen2 : ((D.blow 0).restart us).S.length = 20 := by rw [restart_len, blow_S]; exact hlen
  obtain ⟨rsx, _, hBx, _, _, _⟩ := (hA.blow (k := 0) (by decide)).crash (by decide) us
  have hcvx : checkV ((D.blow 0).restart us) 1 9 = 0 := checkV_zero.2 ⟨by decide, by decide, by rw [hlen2]; decide, by rw [hlen2]; decide, rfl⟩
  have hgox := lgO_good (by decide) (by decide) (by decide) (by decide) hBx.fits hBx.used hBx.each
  obtain ⟨rsy, _, hBy, _, _, _⟩ := (hB.blow (k := 0) (by decide)).crash (by decide) us
  have hcvy : checkV ((D.blow 0).restart us) 10 9 = 0 := checkV_zero.2 ⟨by decide, by decide, by rw [hlen2]; decide, by rw [hlen2]; decide, rfl⟩
  have hgoy := lgO_good (by decide) (by decide) (by decide) (by decide) hBy.fits hBy.used hBy.each
  have hz0 : (((D.blow 0).restart us).at 0) = [B7] := restart_one us (by decide) (by rw [blow_S, hlen]; decide) (by rw [at_blow]; exact h0)
  have hz19 : (((D.blow 0).restart us).at 19) = [B8] := restart_one us (by decide) (by rw [blow_S, hlen]; decide) (by rw [at_blow]; exact h19)
  have hub := hBx.used
  have huc := hBy.used
  have hrb := recs_le rsx
  have hrc := recs_le rsy
  have hr0 : ((D.blow 0).restart us).read 0 = (B7, 0) := by rw [read_on (by decide) (by rw [hlen2]; decide) rfl, now_one hz0]
  have hr19 : ((D.blow 0).restart us).read 19 = (B8, 0) := by rw [read_on (by decide) (by rw [hlen2]; decide) rfl, now_one hz19]
  refine RL.eff (Wanted.free rfl) (E.call rfl go27 rfl (dRestart_ok hok1 (b := db) pickX (ts := us) memX hA.m1 (by decide))) rfl ?_
  rintro _ _ ⟨rfl, rfl⟩
  refine RL.nil ?_
  refine SG.seq ?_
  refine SG.region ?_
  refine RL.val (Wanted.free rfl) (V.move rfl rfl) rfl ?_
  refine RL.eff (Wanted.free rfl) (E.call rfl go14 rfl (open_ok hok2 (by decide) (db := db) pickX (by unfold inInt; decide) (by unfold inInt; decide) hcvx hBx.fits)) rfl ?_
  rintro _ _ ⟨bx, rfl, rfl⟩
  refine RL.val (Wanted.free rfl) (V.move rfl rfl) rfl ?_
  refine RL.val (Wanted.free rfl) (V.extract rfl rfl rfl) rfl ?_
  refine RL.val (Wanted.free rfl) (V.extract rfl rfl rfl) rfl ?_
  refine RL.val (Wanted.free rfl) (V.assign rfl rfl) rfl ?_
  refine RL.val (Wanted.free rfl) (V.assign rfl rfl) rfl ?_
  refine RL.nil ?_
  refine SG.seq ?_
  refine SG.region ?_
  refine RL.val (Wanted.free rfl) (V.move rfl rfl) rfl ?_
  refine RL.eff (Wanted.free rfl) (E.call rfl go14 rfl (open_ok hok2 (by decide) (db := db) pickX (by unfold inInt; decide) (by unfold inInt; decide) hcvy hBy.fits)) rfl ?_
  rintro _ _ ⟨by_, rfl, rfl⟩
  refine RL.val (Wanted.free rfl) (V.move rfl rfl) rfl ?_
  refine RL.val (Wanted.free rfl) (V.extract rfl rfl rfl) rfl ?_
  refine RL.val (Wanted.free rfl) (V.extract rfl rfl rfl) rfl ?_
  refine RL.val (Wanted.free rfl) (V.assign rfl rfl) rfl ?_
  refine RL.val (Wanted.free rfl) (V.assign rfl rfl) rfl ?_
  refine RL.nil ?_
  refine SG.seq ?_
  refine SG.seq ?_
  refine SG.openPast (b := ba) (lb := la) (g := ga) (rst := ra) pickX fun xaA xnA xcA => ?_
  refine SG.openPast (b := bb) (lb := lb) (g := gb) (rst := rb) pickX fun xaB xnB xcB => ?_
  refine SG.region ?_
  refine RL.val (Wanted.free rfl) (V.move rfl rfl) rfl ?_
  refine RL.cmpF (Wanted.free rfl) (V.bin rfl rfl rfl B.neq) rfl (by simp) ?_
  refine RL.val (Wanted.free rfl) (V.move rfl rfl) rfl ?_
  refine RL.val (Wanted.yes rfl rfl rfl rfl) (V.move rfl rfl) rfl ?_
  refine RL.cmpF (Wanted.yes rfl rfl rfl rfl) (V.bin rfl rfl rfl B.neq) rfl (by simp) ?_
  refine RL.val (Wanted.free rfl) (V.pick_false rfl rfl rfl) rfl ?_
  refine RL.val (Wanted.free rfl) (V.move rfl rfl) rfl ?_
  refine RL.val (Wanted.yes rfl rfl rfl rfl) (V.move rfl rfl) rfl ?_
  refine RL.cmpF (Wanted.yes rfl rfl rfl rfl) (V.eqlPtrNil rfl up31 rfl rfl) rfl (by simp) ?_
  refine RL.val (Wanted.free rfl) (V.pick_false rfl rfl rfl) rfl ?_
  refine RL.val (Wanted.free rfl) (V.move rfl rfl) rfl ?_
  refine RL.val (Wanted.yes rfl rfl rfl rfl) (V.move rfl rfl) rfl ?_
  refine RL.cmpF (Wanted.yes rfl rfl rfl rfl) (V.eqlPtrNil rfl up31 rfl rfl) rfl (by simp) ?_
  refine RL.val (Wanted.free rfl) (V.pick_false rfl rfl rfl) rfl ?_
  refine RL.nil ?_
  refine SG.cond_false rfl ?_
  refine SG.skip ?_
  refine SG.seq ?_
  refine SG.join (ι := Unit) (fun _ => [(9, ptr db 0), (15, ptr bb 0), (20, ptr by_ 0), (22, vB true)]) (fun _ => Blk bb 51 (pc lb db gb rb (.slice xaB xnB xcB)) :: Buf (Rep.slice R8) 35 xaB xnB xcB gb.recs :: Lgm by_ db (lgO ((D.blow 0).restart us) 10 9 rsy) :: Dsk db ((D.blow 0).restart us) :: L) (fun _ => True) ?_ (fun rest => ?_)
  ·
   rintro _ _
   try dsimp only
   refine SG.seq ?_
   refine SG.join (ι := Unit) (fun _ => [(9, ptr db 0), (22, vB true), (23, vB true)]) (fun _ => Dsk db ((D.blow 0).restart us) :: L) (fun _ => True) ?_ (fun rest => ?_)
   ·
    rintro _ _
    try dsimp only
    refine SG.seq ?_
    refine SG.region ?_
    refine RL.val (Wanted.free rfl) (V.move rfl rfl) rfl ?_
    refine RL.eff (Wanted.free rfl) (E.call rfl go37 rfl (dRead_ok hok2 (b := db) pickX 0 (by decide))) rfl ?_
    rintro _ _ ⟨a196, m196, c196, rfl, rfl⟩
    rw [hr0]
    refine RL.val (Wanted.free rfl) (V.move rfl rfl) rfl ?_
    refine RL.val (Wanted.free rfl) (V.extract rfl rfl rfl) rfl ?_
    refine RL.val (Wanted.free rfl) (V.extract rfl rfl rfl) rfl ?_
    refine RL.val (Wanted.free rfl) (V.assign rfl rfl) rfl ?_
    refine RL.val (Wanted.free rfl) (V.assign rfl rfl) rfl ?_
    refine RL.nil ?_
    refine SG.seq ?_
    refine SG.region ?_
    refine RL.val (Wanted.free rfl) (V.move rfl rfl) rfl ?_
    refine RL.eff (Wanted.free rfl) (E.call rfl go37 rfl (dRead_ok hok2 (b := db) pickX 19 (by decide))) rfl ?_
    rintro _ _ ⟨a201, m201, c201, rfl, rfl⟩
    rw [hr19]
    refine RL.val (Wanted.free rfl) (V.move rfl rfl) rfl ?_
    refine RL.val (Wanted.free rfl) (V.extract rfl rfl rfl) rfl ?_
    refine RL.val (Wanted.free rfl) (V.extract rfl rfl rfl) rfl ?_
    refine RL.val (Wanted.free rfl) (V.assign rfl rfl) rfl ?_
    refine RL.val (Wanted.free rfl) (V.assign rfl rfl) rfl ?_
    refine RL.nil ?_
    refine SG.seq ?_
    refine SG.region ?_
    refine RL.val (Wanted.free rfl) (V.move rfl rfl) rfl ?_
    refine RL.cmpT (Wanted.free rfl) (V.bin rfl rfl rfl B.eql) rfl rfl ?_
    refine RL.val (Wanted.free rfl) (V.move rfl rfl) rfl ?_
    refine RL.val (Wanted.yes rfl rfl rfl rfl) (V.move rfl rfl) rfl ?_
    refine RL.cmpT (Wanted.yes rfl rfl rfl rfl) (V.bin rfl rfl rfl B.eql) rfl rfl ?_
    refine RL.val (Wanted.free rfl) (V.pick_true rfl rfl rfl) rfl ?_
    refine RL.val (Wanted.free rfl) (V.move rfl rfl) rfl ?_
    refine RL.val (Wanted.yes rfl rfl rfl rfl) (V.move rfl rfl) rfl ?_
    refine RL.eff (Wanted.yes rfl rfl rfl rfl) (E.call rfl go25 rfl (bytes_ok (n := 64) (by decide))) rfl ?_
    rintro _ _ ⟨a212, c212, rfl, rfl⟩
    rw [hB7]
    refine RL.publish (T := R8) (a := a212) Pick.here ?_
    refine RL.eff (Wanted.yes rfl rfl rfl rfl) (E.call rfl go38 rfl (sameb_rd (l := B7) (l' := B7) (a := a196) (a' := a212) (by first | (apply Seen.sl; (· repeat (first | exact List.Mem.head _ | assumption | apply List.Mem.tail))) | (apply Seen.buf; (· repeat (first | exact Pick.here | apply Pick.there)))) (by first | (apply Seen.sl; (· repeat (first | exact List.Mem.head _ | assumption | apply List.Mem.tail))) | (apply Seen.buf; (· repeat (first | exact Pick.here | apply Pick.there)))))) rfl ?_
    rintro _ _ ⟨rfl, rfl⟩
    rw [decide_eq_true (rfl : B7 = B7)]
    refine RL.val (Wanted.free rfl) (V.pick_true rfl rfl rfl) rfl ?_
    refine RL.val (Wanted.free rfl) (V.move rfl rfl) rfl ?_
    refine RL.val (Wanted.yes rfl rfl rfl rfl) (V.move rfl rfl) rfl ?_
    refine RL.eff (Wanted.yes rfl rfl rfl rfl) (E.call rfl go25 rfl (bytes_ok (n := 64) (by decide))) rfl ?_
    rintro _ _ ⟨a217, c217, rfl, rfl⟩
    rw [hB8]
    refine RL.publish (T := R8) (a := a217) Pick.here ?_
    refine RL.eff (Wanted.yes rfl rfl rfl rfl) (E.call rfl go38 rfl (sameb_rd (l := B8) (l' := B8) (a := a201) (a' := a217) (by first | (apply Seen.sl; (· repeat (first | exact List.Mem.head _ | assumption | apply List.Mem.tail))) | (apply Seen.buf; (· repeat (first | exact Pick.here | apply Pick.there)))) (by first | (apply Seen.sl; (· repeat (first | exact List.Mem.head _ | assumption | apply List.Mem.tail))) | (apply Seen.buf; (· repeat (first | exact Pick.here | apply Pick.there)))))) rfl ?_
    rintro _ _ ⟨rfl, rfl⟩
    rw [decide_eq_true (rfl : B8 = B8)]
    refine RL.val (Wanted.free rfl) (V.pick_true rfl rfl rfl) rfl ?_
    refine RL.val (Wanted.free rfl) (V.assign rfl rfl) rfl ?_
    refine RL.nil ?_
    refine SG.seq ?_
    refine SG.region ?_
    refine RL.val (Wanted.free rfl) (V.move rfl rfl) rfl ?_
    refine RL.val (Wanted.free rfl) (V.move rfl rfl) rfl ?_
    refine RL.val (Wanted.yes rfl rfl rfl rfl) (V.move rfl rfl) rfl ?_
    refine RL.val (Wanted.free rfl) (V.pick_true rfl rfl rfl) rfl ?_
    refine RL.val (Wanted.free rfl) (V.move rfl rfl) rfl ?_
    refine RL.val (Wanted.yes rfl rfl rfl rfl) (V.move rfl rfl) rfl ?_
    refine RL.val (Wanted.free rfl) (V.pick_true rfl rfl rfl) rfl ?_
    refine RL.val (Wanted.free rfl) (V.move rfl rfl) rfl ?_
    refine RL.eff (Wanted.yes rfl rfl rfl rfl) (E.call rfl go17 rfl (lives_ok)) rfl ?_
    rintro _ _ ⟨rfl, rfl⟩
    refine RL.val (Wanted.free rfl) (V.pick_true rfl rfl rfl) rfl ?_
    refine RL.val (Wanted.free rfl) (V.assign rfl rfl) rfl ?_
    refine RL.nil ?_
    refine SG.retE (Ret.r1 Try.func8 rfl (.tmp rfl)) ?_ ⟨rfl, rfl⟩
    exact entX
   ·
    refine SG.drawL 24 24 wide rfl rfl ?_
    refine RH.val 0 rfl krX krX krX krX (Wanted.free rfl) (V.move rfl rfl) rfl ?_
    refine RH.val 2 rfl krX krX krX krX (Wanted.free rfl) (V.move rfl rfl) rfl ?_
    refine RH.val 3 rfl krX krX krX krX (Wanted.free rfl) (V.nilCheck rfl rfl) rfl ?_
    refine RH.val 4 rfl krX krX krX krX (Wanted.free rfl) (V.fieldAddr rfl rfl fo51_4) rfl ?_
    refine RH.val 5 rfl krX krX krX krX (Wanted.free rfl) (V.load rfl on3 rfl pickX rfl) rfl ?_
    refine RH.val 6 rfl krX krX krX krX (Wanted.free rfl) (V.move rfl rfl) rfl ?_
    refine RH.val 7 rfl krX krX krX krX (Wanted.free rfl) (V.nilCheck rfl rfl) rfl ?_
    refine RH.val 8 rfl krX krX krX krX (Wanted.free rfl) (V.fieldAddr rfl rfl fo51_3) rfl ?_
    refine RH.val 9 rfl krX krX krX krX (Wanted.free rfl) (V.load rfl on39 rfl pickX rfl) rfl ?_
    refine RH.one (i := 1) krX ?_
    refine RHone.eff rfl (Wanted.free rfl) (E.call rfl go29 rfl (lRecs_ok hgoy.ok (b := by_) pickX (fun r hr => by have := hBy.each r hr; omega))) rfl ?_
    rintro _ _ ⟨a172, c172, rfl, rfl⟩
    refine ⟨.inr entX, ?_⟩
    rw [show (lgO ((D.blow 0).restart us) 10 9 rsy).recs = rsy from rfl]
    refine RH.one (i := 10) krX ?_
    refine RHone.eff rfl (Wanted.free rfl) (E.call rfl go36 rfl (betw_rd (a := a172) (l := rsy) (l' := gb.recs) (by first | (apply Seen.sl; (· repeat (first | exact List.Mem.head _ | assumption | apply List.Mem.tail))) | (apply Seen.buf; (· repeat (first | exact Pick.here | apply Pick.there)))) (by first | (apply Seen.sl; (· repeat (first | exact List.Mem.head _ | assumption | apply List.Mem.tail))) | (apply Seen.buf; (· repeat (first | exact Pick.here | apply Pick.there)))))) rfl ?_
    rintro _ _ ⟨rfl, rfl⟩
    refine ⟨.inr entX, ?_⟩
    refine RH.val 11 rfl krX krX krX krX (Wanted.free rfl) (V.move rfl rfl) rfl ?_
    refine RH.split 182 rfl (fun g125 => ?_) (fun g125 => ?_)
    ·
     refine RH.skip 12 rfl krX krX krX krX (Wanted.no rfl rfl rfl rfl rfl) rfl ?_
     refine RH.skip 13 rfl krX krX krX krX (Wanted.no rfl rfl rfl rfl rfl) rfl ?_
     refine RH.skip 14 rfl krX krX krX krX (Wanted.no rfl rfl rfl rfl rfl) rfl ?_
     refine RH.skip 15 rfl krX krX krX krX (Wanted.no rfl rfl rfl rfl rfl) rfl ?_
     refine RH.skip 16 rfl krX krX krX krX (Wanted.no rfl rfl rfl rfl rfl) rfl ?_
     refine RH.skip 17 rfl krX krX krX krX (Wanted.un rfl rfl rfl) rfl ?_
     refine RH.skip 18 rfl krX krX krX krX (Wanted.un rfl rfl rfl) rfl ?_
     refine RH.skip 19 rfl krX krX krX krX (Wanted.un rfl rfl rfl) rfl ?_
     refine RH.skip 20 rfl krX krX krX krX (Wanted.un rfl rfl rfl) rfl ?_
     refine RH.skip 21 rfl krX krX krX krX (Wanted.no rfl rfl rfl rfl rfl) rfl ?_
     refine RH.pure 22 rfl krX krX krX krX (Wanted.free rfl) (V.pick_true rfl rfl rfl) rfl ?_
     refine RH.val 23 rfl krX krX krX krX (Wanted.free rfl) (V.assign rfl rfl) rfl ?_
     refine RH.done krX ?_
     refine SG.weaken (rest () trivial) ?_ ?_
     ·
      repeat (first | exact EnvLe.nil _ | refine EnvLe.cons rfl ?_)
     ·
      exact entX
    ·
     have hnby : ¬ betw rsy gb.synced gb.recs := by simpa using g125
     obtain ⟨hr1y, hr2y⟩ := hBy.old.resolve_left hnby
     subst hr1y
     refine RH.val 12 rfl krX krX krX krX (Wanted.yes rfl rfl rfl rfl) (V.move rfl rfl) rfl ?_
     refine RH.val 13 rfl krX krX krX krX (Wanted.yes rfl rfl rfl rfl) (V.nilCheck rfl rfl) rfl ?_
     refine RH.val 14 rfl krX krX krX krX (Wanted.yes rfl rfl rfl rfl) (V.fieldAddr rfl rfl fo51_5) rfl ?_
     refine RH.val 15 rfl krX krX krX krX (Wanted.yes rfl rfl rfl rfl) (V.load rfl on4 rfl pickX rfl) rfl ?_
     refine RH.val 16 rfl krX krX krX krX (Wanted.yes rfl rfl rfl rfl) (V.move rfl rfl) rfl ?_
     refine RH.val 17 rfl krX krX krX krX (Wanted.yes rfl rfl rfl rfl) (V.move rfl rfl) rfl ?_
     refine RH.one (i := 18) krX ?_
     refine RHone.eff rfl (Wanted.yes rfl rfl rfl rfl) (E.call rfl go29 rfl (lRecs_ok hgoy.ok (b := by_) pickX (fun r hr => by have := hBy.each r hr; omega))) rfl ?_
     rintro _ _ ⟨a189, c189, rfl, rfl⟩
     refine ⟨.inr entX, ?_⟩
     rw [show (lgO ((D.blow 0).restart us) 10 9 rsy).recs = rsy from rfl]
     refine RH.val 19 rfl krX krX krX krX (Wanted.yes rfl rfl rfl rfl) (V.len rfl rfl el39.under rfl) rfl ?_
     refine RH.cmpT 20 rfl krX krX krX krX (Wanted.yes rfl rfl rfl rfl) (V.bin rfl rfl rfl B.eql) rfl (by rw [hr2y]; rfl) ?_
     refine RH.pure 21 rfl krX krX krX krX (Wanted.yes rfl rfl rfl rfl) (V.pick_true rfl rfl rfl) rfl ?_
     refine RH.pure 22 rfl krX krX krX krX (Wanted.free rfl) (V.pick_false rfl rfl rfl) rfl ?_
     refine RH.val 23 rfl krX krX krX krX (Wanted.free rfl) (V.assign rfl rfl) rfl ?_
     refine RH.done krX ?_
     refine SG.weaken (rest () trivial) ?_ ?_
     ·
      repeat (first | exact EnvLe.nil _ | refine EnvLe.cons rfl ?_)
     ·
      exact entX
  ·
   refine SG.drawL 24 24 wide rfl rfl ?_
   refine RH.val 0 rfl krX krX krX krX (Wanted.free rfl) (V.move rfl rfl) rfl ?_
   refine RH.val 2 rfl krX krX krX krX (Wanted.free rfl) (V.move rfl rfl) rfl ?_
   refine RH.val 3 rfl krX krX krX krX (Wanted.free rfl) (V.nilCheck rfl rfl) rfl ?_
   refine RH.val 4 rfl krX krX krX krX (Wanted.free rfl) (V.fieldAddr rfl rfl fo51_4) rfl ?_
   refine RH.val 5 rfl krX krX krX krX (Wanted.free rfl) (V.load rfl on3 rfl pickX rfl) rfl ?_
   refine RH.val 6 rfl krX krX krX krX (Wanted.free rfl) (V.move rfl rfl) rfl ?_
   refine RH.val 7 rfl krX krX krX krX (Wanted.free rfl) (V.nilCheck rfl rfl) rfl ?_
   refine RH.val 8 rfl krX krX krX krX (Wanted.free rfl) (V.fieldAddr rfl rfl fo51_3) rfl ?_
   refine RH.val 9 rfl krX krX krX krX (Wanted.free rfl) (V.load rfl on39 rfl pickX rfl) rfl ?_
   refine RH.one (i := 1) krX ?_
   refine RHone.eff rfl (Wanted.free rfl) (E.call rfl go29 rfl (lRecs_ok hgox.ok (b := bx) pickX (fun r hr => by have := hBx.each r hr; omega))) rfl ?_
   rintro _ _ ⟨a149, c149, rfl, rfl⟩
   refine ⟨.inr entX, ?_⟩
   rw [show (lgO ((D.blow 0).restart us) 1 9 rsx).recs = rsx from rfl]
   refine RH.one (i := 10) krX ?_
   refine RHone.eff rfl (Wanted.free rfl) (E.call rfl go36 rfl (betw_rd (a := a149) (l := rsx) (l' := ga.recs) (by first | (apply Seen.sl; (· repeat (first | exact List.Mem.head _ | assumption | apply List.Mem.tail))) | (apply Seen.buf; (· repeat (first | exact Pick.here | apply Pick.there)))) (by first | (apply Seen.sl; (· repeat (first | exact List.Mem.head _ | assumption | apply List.Mem.tail))) | (apply Seen.buf; (· repeat (first | exact Pick.here | apply Pick.there)))))) rfl ?_
   rintro _ _ ⟨rfl, rfl⟩
   refine ⟨.inr entX, ?_⟩
   refine RH.val 11 rfl krX krX krX krX (Wanted.free rfl) (V.move rfl rfl) rfl ?_
   refine RH.split 159 rfl (fun g148 => ?_) (fun g148 => ?_)
   ·
    refine RH.skip 12 rfl krX krX krX krX (Wanted.no rfl rfl rfl rfl rfl) rfl ?_
    refine RH.skip 13 rfl krX krX krX krX (Wanted.no rfl rfl rfl rfl rfl) rfl ?_
    refine RH.skip 14 rfl krX krX krX krX (Wanted.no rfl rfl rfl rfl rfl) rfl ?_
    refine RH.skip 15 rfl krX krX krX krX (Wanted.no rfl rfl rfl rfl rfl) rfl ?_
    refine RH.skip 16 rfl krX krX krX krX (Wanted.no rfl rfl rfl rfl rfl) rfl ?_
    refine RH.skip 17 rfl krX krX krX krX (Wanted.un rfl rfl rfl) rfl ?_
    refine RH.skip 18 rfl krX krX krX krX (Wanted.un rfl rfl rfl) rfl ?_
    refine RH.skip 19 rfl krX krX krX krX (Wanted.un rfl rfl rfl) rfl ?_
    refine RH.skip 20 rfl krX krX krX krX (Wanted.un rfl rfl rfl) rfl ?_
    refine RH.skip 21 rfl krX krX krX krX (Wanted.no rfl rfl rfl rfl rfl) rfl ?_
    refine RH.pure 22 rfl krX krX krX krX (Wanted.free rfl) (V.pick_true rfl rfl rfl) rfl ?_
    refine RH.val 23 rfl krX krX krX krX (Wanted.free rfl) (V.assign rfl rfl) rfl ?_
    refine RH.done krX ?_
    refine SG.weaken (rest () trivial) ?_ ?_
    ·
     repeat (first | exact EnvLe.nil _ | refine EnvLe.cons rfl ?_)
    ·
     exact entX
   ·
    have hnbx : ¬ betw rsx ga.synced ga.recs := by simpa using g148
    obtain ⟨hr1x, hr2x⟩ := hBx.old.resolve_left hnbx
    subst hr1x
    refine RH.val 12 rfl krX krX krX krX (Wanted.yes rfl rfl rfl rfl) (V.move rfl rfl) rfl ?_
    refine RH.val 13 rfl krX krX krX krX (Wanted.yes rfl rfl rfl rfl) (V.nilCheck rfl rfl) rfl ?_
    refine RH.val 14 rfl krX krX krX krX (Wanted.yes rfl rfl rfl rfl) (V.fieldAddr rfl rfl fo51_5) rfl ?_
    refine RH.val 15 rfl krX krX krX krX (Wanted.yes rfl rfl rfl rfl) (V.load rfl on4 rfl pickX rfl) rfl ?_
    refine RH.val 16 rfl krX krX krX krX (Wanted.yes rfl rfl rfl rfl) (V.move rfl rfl) rfl ?_
    refine RH.val 17 rfl krX krX krX krX (Wanted.yes rfl rfl rfl rfl) (V.move rfl rfl) rfl ?_
    refine RH.one (i := 18) krX ?_
    refine RHone.eff rfl (Wanted.yes rfl rfl rfl rfl) (E.call rfl go29 rfl (lRecs_ok hgox.ok (b := bx) pickX (fun r hr => by have := hBx.each r hr; omega))) rfl ?_
    rintro _ _ ⟨a166, c166, rfl, rfl⟩
    refine ⟨.inr entX, ?_⟩
    rw [show (lgO ((D.blow 0).restart us) 1 9 rsx).recs = rsx from rfl]
    refine RH.val 19 rfl krX krX krX krX (Wanted.yes rfl rfl rfl rfl) (V.len rfl rfl el39.under rfl) rfl ?_
    refine RH.cmpT 20 rfl krX krX krX krX (Wanted.yes rfl rfl rfl rfl) (V.bin rfl rfl rfl B.eql) rfl (by rw [hr2x]; rfl) ?_
    refine RH.pure 21 rfl krX krX krX krX (Wanted.yes rfl rfl rfl rfl) (V.pick_true rfl rfl rfl) rfl ?_
    refine RH.pure 22 rfl krX krX krX krX (Wanted.free rfl) (V.pick_false rfl rfl rfl) rfl ?_
    refine RH.val 23 rfl krX krX krX krX (Wanted.free rfl) (V.assign rfl rfl) rfl ?_
    refine RH.done krX ?_
    refine SG.weaken (rest () trivial) ?_ ?_
    ·
     repeat (first | exact EnvLe.nil _ | refine EnvLe.cons rfl ?_)
    ·
     exact entX
 ·
  refine SG.block ?_
  refine SG.weaken (SG.loop2 (fun m9 al M => ∃ (i : Nat) (ga gb : Lg) (D : Dk) (ra rb : Bool), i ≤ 20 ∧ m9 = 20 - i ∧ Pst 1 9 ga D (1 + i) (60 + 40 * i) ra ∧ Pst 10 9 gb D (1 + i) (60 + 40 * i) rb ∧ D.S.length = 20 ∧ D.at 0 = [B7] ∧ D.at 19 = [B8] ∧ al = [(0, .slice a l.length c), (1, .slice aw ws.length cw), (3, .slice at_ nt ct), (9, ptr db 0), (14, ptr ba 0), (15, ptr bb 0), (16, vI i)] ∧ M = Past ba la db ga ra :: Past bb lb db gb rb :: Dsk db D :: L) (m0 := _) ⟨0, lg0 1 9 1 0, lg0 10 9 1 0, D5.blow fu, false, false, by omega, rfl, (P6.blow (by omega)).mono (by omega) (by omega), (P5.blow (by omega)).mono (by omega) (by omega), by rw [blow_S]; exact hlen5, by rw [at_blow]; exact hw0, by rw [at_blow]; exact hw19, rfl, rfl⟩ ?_) ?_ ?_
  rotate_left
  ·
   repeat (first | exact EnvLe.nil _ | refine EnvLe.cons rfl ?_)
  ·
   exact entX
  rintro _ _ _ ⟨i, ga, gb, D, ra, rb, hi, rfl, hA, hB, hlen, h0, h19, rfl, rfl⟩ ih0
  refine SG.seq ?_
  refine SG.seq ?_
  refine SG.region ?_
  refine RL.val (Wanted.free rfl) (V.move rfl rfl) rfl ?_
  refine RL.val (Wanted.free rfl) (V.move rfl rfl) rfl ?_
  refine RL.val (Wanted.free rfl) (V.len rfl rfl el38.under rfl) rfl ?_
  refine RL.cmp (Wanted.free rfl) (V.bin rfl rfl rfl B.lss) rfl (fun h162 => ?_) (fun h162 => ?_)
  ·
   refine RL.val (Wanted.free rfl) (V.move rfl rfl) rfl ?_
   refine RL.val (Wanted.yes rfl rfl rfl rfl) (V.move rfl rfl) rfl ?_
   refine RL.cmp (Wanted.yes rfl rfl rfl rfl) (V.bin rfl rfl rfl B.lss) rfl (fun h165 => ?_) (fun h165 => ?_)
   ·
    refine RL.val (Wanted.free rfl) (V.pick_true rfl rfl rfl) rfl ?_
    refine RL.val (Wanted.free rfl) (V.move rfl rfl) rfl ?_
    refine RL.val (Wanted.yes rfl rfl rfl rfl) (V.move rfl rfl) rfl ?_
    refine RL.eff (Wanted.yes rfl rfl rfl rfl) (E.call rfl go35 rfl (dOn_ok hA.ok (b := db) pickX)) rfl ?_
    rintro _ _ ⟨rfl, rfl⟩
    refine RL.val (Wanted.free rfl) (V.pick_true rfl rfl rfl) rfl ?_
    refine RL.nil ?_
    refine SG.cond rfl (fun h169 => ?_) (fun h169 => ?_)
    ·
     have hon : D.off = false := by simpa using h169
     refine SG.skip ?_
     refine SG.seq ?_
     refine SG.block ?_
     refine SG.seq ?_
     refine SG.region ?_
     refine RL.val (Wanted.free rfl) (V.move rfl rfl) rfl ?_
     refine RL.val (Wanted.free rfl) (V.assign rfl rfl) rfl ?_
     refine RL.nil ?_
     refine SG.seq ?_
     refine SG.seq ?_
     refine SG.region ?_
     refine RL.val (Wanted.free rfl) (V.move rfl rfl) rfl ?_
     refine RL.val (Wanted.free rfl) (V.move rfl rfl) rfl ?_
     refine RL.val (Wanted.free rfl) (V.len rfl rfl el65.under rfl) rfl ?_
     refine RL.cmp (Wanted.free rfl) (V.bin rfl rfl rfl B.lss) rfl (fun h175 => ?_) (fun h175 => ?_)
     ·
      obtain ⟨wv, hw⟩ : ∃ w, ws[i]? = some w := ⟨_, List.getElem?_eq_getElem (by omega)⟩
      refine RL.val (Wanted.free rfl) (V.move rfl rfl) rfl ?_
      refine RL.val (Wanted.yes rfl rfl rfl rfl) (V.move rfl rfl) rfl ?_
      refine RL.val (Wanted.yes rfl rfl rfl rfl) (V.move rfl rfl) rfl ?_
      refine RL.val (Wanted.yes rfl rfl rfl rfl) (V.indexSl (j := i) rfl el65.slice rfl rfl memX (by first | rfl | omega) (by omega)) rfl ?_
      refine RL.val (Wanted.yes rfl rfl rfl rfl) (V.loadSc rfl on4 rfl memX hw) rfl ?_
      refine RL.val (Wanted.free rfl) (V.pick_true rfl rfl rfl) rfl ?_
      refine RL.nil ?_
      refine SG.cond rfl (fun h181 => ?_) (fun h181 => ?_)
      ·
       refine SG.region ?_
       refine RL.val (Wanted.free rfl) (V.move rfl rfl) rfl ?_
       refine RL.val (Wanted.free rfl) (V.assign rfl rfl) rfl ?_
       refine RL.nil ?_
       refine SG.seq ?_
       obtain ⟨o, ho⟩ : ∃ o, l[i]? = some o := ⟨_, List.getElem?_eq_getElem (by omega)⟩
       refine SG.elemAct (a := a) memX ho fun ab mb cb hok => ?_
       refine SG.region ?_
       refine RL.val (Wanted.free rfl) (V.move rfl rfl) rfl ?_
       refine RL.val (Wanted.free rfl) (V.move rfl rfl) rfl ?_
       refine RL.val (Wanted.free rfl) (V.move rfl rfl) rfl ?_
       refine RL.val (Wanted.free rfl) (V.indexSl (j := i) rfl el38.slice rfl rfl memX (by first | rfl | omega) (by omega)) rfl ?_
       refine RL.val (Wanted.free rfl) (V.loadAt rfl ag42 rfl memX rfl) rfl ?_
       refine RL.eff (Wanted.free rfl) (E.call rfl go32 rfl (act_ok hB hon (by omega) (by omega) (b := bb) (lb := lb) (db := db) pickX pickX hok (ab := ab) (mb := mb) (cb := cb) memX)) rfl ?_
       rintro _ _ ⟨g2, D2, r2, hX, rfl, rfl⟩
       have hO := hA.beside hon hX.frm hX.len hX.st.ok hX.st.m1 (by decide)
       have hln := hX.len.trans hlen
       have hz0 := hX.frm.one (by decide) (by decide) h0
       have hz19 := hX.frm.one (by decide) (by decide) h19
       refine RL.val (Wanted.free rfl) (V.not rfl rfl) rfl ?_
       refine RL.nil ?_
       refine SG.cond_false rfl ?_
       refine SG.skip ?_
       refine SG.inBlock ?_
       refine SG.region ?_
       refine RL.val (Wanted.free rfl) (V.move rfl rfl) rfl ?_
       refine RL.val (Wanted.free rfl) (V.bin rfl rfl rfl (B.addI (by omega) (by omega))) rfl ?_
       refine RL.val (Wanted.free rfl) (V.assign rfl rfl) rfl ?_
       refine RL.nil ?_
       refine SG.weaken (ih0 _ _ _ ?_ ⟨i + 1, ga, g2, D2, ra, r2, by omega, rfl, hO.mono (by omega) (by omega), hX.st.mono (by omega) (by omega), hln, hz0, hz19, rfl, rfl⟩) ?_ ?_
       ·
        omega
       ·
        repeat (first | exact EnvLe.nil _ | refine EnvLe.cons rfl ?_)
       ·
        exact entX
      ·
       refine SG.skip ?_
       refine SG.seq ?_
       obtain ⟨o, ho⟩ : ∃ o, l[i]? = some o := ⟨_, List.getElem?_eq_getElem (by omega)⟩
       refine SG.elemAct (a := a) memX ho fun ab mb cb hok => ?_
       refine SG.region ?_
       refine RL.val (Wanted.free rfl) (V.move rfl rfl) rfl ?_
       refine RL.val (Wanted.free rfl) (V.move rfl rfl) rfl ?_
       refine RL.val (Wanted.free rfl) (V.move rfl rfl) rfl ?_
       refine RL.val (Wanted.free rfl) (V.indexSl (j := i) rfl el38.slice rfl rfl memX (by first | rfl | omega) (by omega)) rfl ?_
       refine RL.val (Wanted.free rfl) (V.loadAt rfl ag42 rfl memX rfl) rfl ?_
       refine RL.eff (Wanted.free rfl) (E.call rfl go32 rfl (act_ok hA hon (by omega) (by omega) (b := ba) (lb := la) (db := db) pickX pickX hok (ab := ab) (mb := mb) (cb := cb) memX)) rfl ?_
       rintro _ _ ⟨g2, D2, r2, hX, rfl, rfl⟩
       have hO := hB.beside hon hX.frm hX.len hX.st.ok hX.st.m1 (by decide)
       have hln := hX.len.trans hlen
       have hz0 := hX.frm.one (by decide) (by decide) h0
       have hz19 := hX.frm.one (by decide) (by decide) h19
       refine RL.val (Wanted.free rfl) (V.not rfl rfl) rfl ?_
       refine RL.nil ?_
       refine SG.cond_false rfl ?_
       refine SG.skip ?_
       refine SG.inBlock ?_
       refine SG.region ?_
       refine RL.val (Wanted.free rfl) (V.move rfl rfl) rfl ?_
       refine RL.val (Wanted.free rfl) (V.bin rfl rfl rfl (B.addI (by omega) (by omega))) rfl ?_
       refine RL.val (Wanted.free rfl) (V.assign rfl rfl) rfl ?_
       refine RL.nil ?_
       refine SG.weaken (ih0 _ _ _ ?_ ⟨i + 1, g2, gb, D2, r2, rb, by omega, rfl, hX.st.mono (by omega) (by omega), hO.mono (by omega) (by omega), hln, hz0, hz19, rfl, rfl⟩) ?_ ?_
       ·
        omega
       ·
        repeat (first | exact EnvLe.nil _ | refine EnvLe.cons rfl ?_)
       ·
        exact entX
     ·
      refine RL.val (Wanted.free rfl) (V.move rfl rfl) rfl ?_
      refine RL.skip (Wanted.no rfl rfl rfl rfl rfl) rfl ?_
      refine RL.skip (Wanted.no rfl rfl rfl rfl rfl) rfl ?_
      refine RL.skip (Wanted.no rfl rfl rfl rfl rfl) rfl ?_
      refine RL.skip (Wanted.no rfl rfl rfl rfl rfl) rfl ?_
      refine RL.val (Wanted.free rfl) (V.pick_false rfl rfl rfl) rfl ?_
      refine RL.nil ?_
      refine SG.cond_false rfl ?_
      refine SG.skip ?_
      refine SG.seq ?_
      obtain ⟨o, ho⟩ : ∃ o, l[i]? = some o := ⟨_, List.getElem?_eq_getElem (by omega)⟩
      refine SG.elemAct (a := a) memX ho fun ab mb cb hok => ?_
      refine SG.region ?_
      refine RL.val (Wanted.free rfl) (V.move rfl rfl) rfl ?_
      refine RL.val (Wanted.free rfl) (V.move rfl rfl) rfl ?_
      refine RL.val (Wanted.free rfl) (V.move rfl rfl) rfl ?_
      refine RL.val (Wanted.free rfl) (V.indexSl (j := i) rfl el38.slice rfl rfl memX (by first | rfl | omega) (by omega)) rfl ?_
      refine RL.val (Wanted.free rfl) (V.loadAt rfl ag42 rfl memX rfl) rfl ?_
      refine RL.eff (Wanted.free rfl) (E.call rfl go32 rfl (act_ok hA hon (by omega) (by omega) (b := ba) (lb := la) (db := db) pickX pickX hok (ab := ab) (mb := mb) (cb := cb) memX)) rfl ?_
      rintro _ _ ⟨g2, D2, r2, hX, rfl, rfl⟩
      have hO := hB.beside hon hX.frm hX.len hX.st.ok hX.st.m1 (by decide)
      have hln := hX.len.trans hlen
      have hz0 := hX.frm.one (by decide) (by decide) h0
      have hz19 := hX.frm.one (by decide) (by decide) h19
      refine RL.val (Wanted.free rfl) (V.not rfl rfl) rfl ?_
      refine RL.nil ?_
      refine SG.cond_false rfl ?_
      refine SG.skip ?_
      refine SG.inBlock ?_
      refine SG.region ?_
      refine RL.val (Wanted.free rfl) (V.move rfl rfl) rfl ?_
      refine RL.val (Wanted.free rfl) (V.bin rfl rfl rfl (B.addI (by omega) (by omega))) rfl ?_
      refine RL.val (Wanted.free rfl) (V.assign rfl rfl) rfl ?_
      refine RL.nil ?_
      refine SG.weaken (ih0 _ _ _ ?_ ⟨i + 1, g2, gb, D2, r2, rb, by omega, rfl, hX.st.mono (by omega) (by omega), hO.mono (by omega) (by omega), hln, hz0, hz19, rfl, rfl⟩) ?_ ?_
      ·
       omega
      ·
       repeat (first | exact EnvLe.nil _ | refine EnvLe.cons rfl ?_)
      ·
       exact entX
    ·
     refine SG.exit rfl ?_
     refine SG.weaken (rest ⟨ga, gb, D, ra, rb⟩ ⟨hA.mono (by omega) (by omega), hB.mono (by omega) (by omega), hlen, h0, h19⟩) ?_ ?_
     ·
      repeat (first | exact EnvLe.nil _ | refine EnvLe.cons rfl ?_)
     ·
      exact entX
   ·
    refine RL.val (Wanted.free rfl) (V.pick_true rfl rfl rfl) rfl ?_
    refine RL.val (Wanted.free rfl) (V.move rfl rfl) rfl ?_
    refine RL.skip (Wanted.no rfl rfl rfl rfl rfl) rfl ?_
    refine RL.skip (Wanted.no rfl rfl rfl rfl rfl) rfl ?_
    refine RL.val (Wanted.free rfl) (V.pick_false rfl rfl rfl) rfl ?_
    refine RL.nil ?_
    refine SG.cond_false rfl ?_
    refine SG.exit rfl ?_
    refine SG.weaken (rest ⟨ga, gb, D, ra, rb⟩ ⟨hA.mono (by omega) (by omega), hB.mono (by omega) (by omega), hlen, h0, h19⟩) ?_ ?_
    ·
     repeat (first | exact EnvLe.nil _ | refine EnvLe.cons rfl ?_)
    ·
     exact entX
  ·
   refine RL.val (Wanted.free rfl) (V.move rfl rfl) rfl ?_
   refine RL.skip (Wanted.no rfl rfl rfl rfl rfl) rfl ?_
   refine RL.skip (Wanted.no rfl rfl rfl rfl rfl) rfl ?_
   refine RL.val (Wanted.free rfl) (V.pick_false rfl rfl rfl) rfl ?_
   refine RL.val (Wanted.free rfl) (V.move rfl rfl) rfl ?_
   refine RL.skip (Wanted.no rfl rfl rfl rfl rfl) rfl ?_
   refine RL.skip (Wanted.no rfl rfl rfl rfl rfl) rfl ?_
   refine RL.val (Wanted.free rfl) (V.pick_false rfl rfl rfl) rfl ?_
   refine RL.nil ?_
   refine SG.cond_false rfl ?_
   refine SG.exit rfl ?_
   refine SG.weaken (rest ⟨ga, gb, D, ra, rb⟩ ⟨hA.mono (by omega) (by omega), hB.mono (by omega) (by omega), hlen, h0, h19⟩) ?_ ?_
   ·
    repeat (first | exact EnvLe.nil _ | refine EnvLe.cons rfl ?_)
   ·
    exact entX

end Go.Proofs.Ytnbjonijlkjclaa
