/- Open. -/
import Derived.Test.YtcbloadpffjkiaaDoorZOffs
namespace Go.Proofs.YtcbloadpffjkiaaDoor
open Go.Wk Go.Wl Go.Dsk

set_option maxRecDepth 100000 in
set_option maxHeartbeats 1000000 in
theorem open_err {κ : World} {L : List Assn} {L1 : List Assn} {db : Nat} {D : Dk} {m0 : Nat} (hD : D.ok m0) (_ : m0 ≤ 100000) (hp : Pick (Dsk db D) L L1) {f n : Int} (hf : inInt f) (hn : inInt n) (hcv : checkV D f n ≠ 0) :
    Ctr Tryd.prog 42 #[ptr db 0, vI f, vI n] κ L (fun v M => v = .tuple #[.pointer none, vI (checkV D f n)] ∧ M = Dsk db D :: L1) := by
 refine Ctr.enter (vs := [ptr db 0, vI f, vI n]) (m := 131) Tryd.func42 rfl rfl rfl ?_
 refine SG.ent hp ?_
 refine SG.seq ?_
 refine SG.region ?_
 refine RL.val (Wanted.free rfl) (V.assign rfl rfl) rfl ?_
 refine RL.val (Wanted.free rfl) (V.assign rfl rfl) rfl ?_
 refine RL.nil ?_
 refine SG.seq ?_
 refine SG.seq ?_
 refine SG.region ?_
 refine RL.val (Wanted.free rfl) (V.move rfl rfl) rfl ?_
 refine RL.val (Wanted.free rfl) (V.move rfl rfl) rfl ?_
 refine RL.val (Wanted.free rfl) (V.move rfl rfl) rfl ?_
 refine RL.eff (Wanted.free rfl) (E.call rfl go63 rfl (check_ok hD pickX hf hn)) rfl ?_
 rintro _ _ ⟨rfl, rfl⟩
 refine RL.val (Wanted.free rfl) (V.assign rfl rfl) rfl ?_
 refine RL.nil ?_
 refine SG.seq ?_
 refine SG.region ?_
 refine RL.val (Wanted.free rfl) (V.move rfl rfl) rfl ?_
 refine RL.cmpT (Wanted.free rfl) (V.bin rfl rfl rfl B.neq) rfl (by omega) ?_
 refine RL.nil ?_
 refine SG.cond_true rfl ?_
 refine SG.seq ?_
 refine SG.region ?_
 refine RL.val (Wanted.free rfl) (V.move rfl rfl) rfl ?_
 refine RL.val (Wanted.free rfl) (V.assign rfl rfl) rfl ?_
 refine RL.val (Wanted.free rfl) (V.assign rfl rfl) rfl ?_
 refine RL.nil ?_
 refine SG.retE (Ret.r2 Tryd.func42 rfl (.tmp rfl) (.tmp rfl)) ?_ ⟨rfl, rfl⟩
 exact entX

set_option maxRecDepth 100000 in
set_option maxHeartbeats 1000000 in
theorem open_form {κ : World} {L : List Assn} {L1 : List Assn} {db : Nat} {D : Dk} {m0 : Nat} (hD : D.ok m0) (hm0 : m0 ≤ 100000) (hp : Pick (Dsk db D) L L1) {f n : Int} (hf : inInt f) (hn : inInt n) (hcv : checkV D f n = 0) (hne : nwE D f ≠ 0) :
    Ctr Tryd.prog 42 #[ptr db 0, vI f, vI n] κ L (fun v M => v = .tuple #[.pointer none, vI (nwE D f)] ∧ M = Dsk db D :: L1) := by
 refine Ctr.enter (vs := [ptr db 0, vI f, vI n]) (m := 131) Tryd.func42 rfl rfl rfl ?_
 refine SG.ent hp ?_
 refine SG.seq ?_
 refine SG.region ?_
 refine RL.val (Wanted.free rfl) (V.assign rfl rfl) rfl ?_
 refine RL.val (Wanted.free rfl) (V.assign rfl rfl) rfl ?_
 refine RL.nil ?_
 refine SG.seq ?_
 refine SG.seq ?_
 refine SG.region ?_
 refine RL.val (Wanted.free rfl) (V.move rfl rfl) rfl ?_
 refine RL.val (Wanted.free rfl) (V.move rfl rfl) rfl ?_
 refine RL.val (Wanted.free rfl) (V.move rfl rfl) rfl ?_
 refine RL.eff (Wanted.free rfl) (E.call rfl go63 rfl (check_ok hD pickX hf hn)) rfl ?_
 rintro _ _ ⟨rfl, rfl⟩
 refine RL.val (Wanted.free rfl) (V.assign rfl rfl) rfl ?_
 refine RL.nil ?_
 refine SG.seq ?_
 refine SG.region ?_
 refine RL.val (Wanted.free rfl) (V.move rfl rfl) rfl ?_
 refine RL.cmpF (Wanted.free rfl) (V.bin rfl rfl rfl B.neq) rfl (by omega) ?_
 refine RL.nil ?_
 refine SG.cond_false rfl ?_
 refine SG.skip ?_
 refine SG.seq ?_
 obtain ⟨hn4, hf0, hnl, hfl, hon⟩ := checkV_zero.1 hcv
 have hlen := hD.len
 obtain ⟨N, rfl⟩ := Int.eq_ofNat_of_zero_le (show 0 ≤ n by omega)
 refine SG.region ?_
 refine RL.val (Wanted.free rfl) (V.move rfl rfl) rfl ?_
 refine RL.val (Wanted.free rfl) (V.move rfl rfl) rfl ?_
 refine RL.val (Wanted.free rfl) (V.move rfl rfl) rfl ?_
 refine RL.val (Wanted.free rfl) (V.buildS [(0, _), (1, _), (2, _)] rfl bs103 (by exact ⟨rfl, ⟨_, rfl, rfl⟩, ⟨rfl, ⟨_, rfl, rfl⟩, ⟨rfl, ⟨_, rfl, rfl⟩, trivial⟩⟩⟩) rfl) rfl ?_
 refine RL.eff (Wanted.free rfl) (E.box [ptr db 0, vI f, vI N, v64 0, v64 0, .slice none 0 0, .slice none 0 0, vI 0, vI 0] rfl rfl rfl) rfl ?_
 rintro _ _ ⟨b28, rfl, rfl⟩
 refine RL.val (Wanted.free rfl) (V.assign rfl rfl) rfl ?_
 refine RL.nil ?_
 refine SG.seq ?_
 refine SG.ent (Buf.nil (T := Rep.slice R8) (e := 62)) ?_
 refine SG.ent (Buf.nil (T := R8) (e := 5)) ?_
 refine SG.ent (Lgm.ent (b := b28) (db := db) (g := lg0 f N 0 0) (da := none) (dn := 0) (dc := 0) (ra := none) (rn := 0) (rc := 0) (by repeat (first | exact Ent.refl _ | (apply Ent.cons; (· repeat (first | exact Pick.here | (refine Pick.sl ?_; (· repeat (first | exact List.Mem.head _ | assumption | apply List.Mem.tail))) | apply Pick.there))) | (refine Ent.trans (Ent.drop _ _) ?_)))) ?_
 refine SG.region ?_
 refine RL.val (Wanted.free rfl) (V.move rfl rfl) rfl ?_
 refine RL.eff (Wanted.free rfl) (E.call rfl go75 rfl (lNewest_ok (g := lg0 f N 0 0) (lg0_ok (by omega) (by omega) (by omega) (by omega) 0) (D := D) (L1 := Dsk db D :: L1) pickX hD (by omega) Pick.here hon (by show f + 2 ≤ _; omega))) rfl ?_
 rintro _ _ ⟨rfl, rfl⟩
 rw [show nwM D (lg0 f N 0 0).f = nwM D f from rfl, show nwE D (lg0 f N 0 0).f = nwE D f from rfl]
 refine RL.val (Wanted.free rfl) (V.move rfl rfl) rfl ?_
 refine RL.val (Wanted.free rfl) (V.extract rfl rfl rfl) rfl ?_
 refine RL.val (Wanted.free rfl) (V.extract rfl rfl rfl) rfl ?_
 refine RL.eff (Wanted.free rfl) (E.alloc rfl ze101) rfl ?_
 rintro _ _ ⟨b10, rfl, rfl⟩
 refine RL.eff (Wanted.free rfl) (E.storeWhole rfl rfl rfl (by rfl) sz101 pickX (by first | (simp [Value.oneCell']; done) | (simp [setAt, Value.oneCell']; done)) (by rfl)) rfl ?_
 rintro _ _ rfl
 refine RL.val (Wanted.free rfl) (V.assign rfl rfl) rfl ?_
 refine RL.nil ?_
 refine SG.seq ?_
 refine SG.seq ?_
 refine SG.region ?_
 refine RL.val (Wanted.free rfl) (V.move rfl rfl) rfl ?_
 refine RL.cmpT (Wanted.free rfl) (V.bin rfl rfl rfl B.neq) rfl (by omega) ?_
 refine RL.nil ?_
 refine SG.cond_true rfl ?_
 refine SG.seq ?_
 refine SG.region ?_
 refine RL.val (Wanted.free rfl) (V.move rfl rfl) rfl ?_
 refine RL.val (Wanted.free rfl) (V.assign rfl rfl) rfl ?_
 refine RL.val (Wanted.free rfl) (V.assign rfl rfl) rfl ?_
 refine RL.nil ?_
 refine SG.retE (Ret.r2 Tryd.func42 rfl (.tmp rfl) (.tmp rfl)) ?_ ⟨rfl, rfl⟩
 exact entX

set_option maxRecDepth 100000 in
set_option maxHeartbeats 2000000 in
theorem open_ok {κ : World} {L : List Assn} {L1 : List Assn} {db : Nat} {D : Dk} {m0 : Nat} (hD : D.ok m0) (hm0 : m0 ≤ 100000) (hp : Pick (Dsk db D) L L1) {f n : Int} (hf : inInt f) (hn : inInt n) (hcv : checkV D f n = 0) {rs : List (List UInt8)} (hF : Fits D f n rs) :
    Ctr Tryd.prog 42 #[ptr db 0, vI f, vI n] κ L (fun v M => ∃ b, v = .tuple #[ptr b 0, vI 0] ∧ M = Lgm b db (lgO D f n rs) :: Dsk db D :: L1) := by
 refine Ctr.enter (vs := [ptr db 0, vI f, vI n]) (m := 131) Tryd.func42 rfl rfl rfl ?_
 refine SG.ent hp ?_
 refine SG.seq ?_
 refine SG.region ?_
 refine RL.val (Wanted.free rfl) (V.assign rfl rfl) rfl ?_
 refine RL.val (Wanted.free rfl) (V.assign rfl rfl) rfl ?_
 refine RL.nil ?_
 refine SG.seq ?_
 refine SG.seq ?_
 refine SG.region ?_
 refine RL.val (Wanted.free rfl) (V.move rfl rfl) rfl ?_
 refine RL.val (Wanted.free rfl) (V.move rfl rfl) rfl ?_
 refine RL.val (Wanted.free rfl) (V.move rfl rfl) rfl ?_
 refine RL.eff (Wanted.free rfl) (E.call rfl go63 rfl (check_ok hD pickX hf hn)) rfl ?_
 rintro _ _ ⟨rfl, rfl⟩
 refine RL.val (Wanted.free rfl) (V.assign rfl rfl) rfl ?_
 refine RL.nil ?_
 refine SG.seq ?_
 refine SG.region ?_
 refine RL.val (Wanted.free rfl) (V.move rfl rfl) rfl ?_
 refine RL.cmpF (Wanted.free rfl) (V.bin rfl rfl rfl B.neq) rfl (by omega) ?_
 refine RL.nil ?_
 refine SG.cond_false rfl ?_
 refine SG.skip ?_
 refine SG.seq ?_
 obtain ⟨hn4, hf0, hnl, hfl, hon⟩ := checkV_zero.1 hcv
 have hlen := hD.len
 obtain ⟨N, rfl⟩ := Int.eq_ofNat_of_zero_le (show 0 ≤ n by omega)
 refine SG.region ?_
 refine RL.val (Wanted.free rfl) (V.move rfl rfl) rfl ?_
 refine RL.val (Wanted.free rfl) (V.move rfl rfl) rfl ?_
 refine RL.val (Wanted.free rfl) (V.move rfl rfl) rfl ?_
 refine RL.val (Wanted.free rfl) (V.buildS [(0, _), (1, _), (2, _)] rfl bs103 (by exact ⟨rfl, ⟨_, rfl, rfl⟩, ⟨rfl, ⟨_, rfl, rfl⟩, ⟨rfl, ⟨_, rfl, rfl⟩, trivial⟩⟩⟩) rfl) rfl ?_
 refine RL.eff (Wanted.free rfl) (E.box [ptr db 0, vI f, vI N, v64 0, v64 0, .slice none 0 0, .slice none 0 0, vI 0, vI 0] rfl rfl rfl) rfl ?_
 rintro _ _ ⟨b28, rfl, rfl⟩
 refine RL.val (Wanted.free rfl) (V.assign rfl rfl) rfl ?_
 refine RL.nil ?_
 refine SG.seq ?_
 refine SG.ent (Buf.nil (T := Rep.slice R8) (e := 62)) ?_
 refine SG.ent (Buf.nil (T := R8) (e := 5)) ?_
 refine SG.ent (Lgm.ent (b := b28) (db := db) (g := lg0 f N 0 0) (da := none) (dn := 0) (dc := 0) (ra := none) (rn := 0) (rc := 0) (by repeat (first | exact Ent.refl _ | (apply Ent.cons; (· repeat (first | exact Pick.here | (refine Pick.sl ?_; (· repeat (first | exact List.Mem.head _ | assumption | apply List.Mem.tail))) | apply Pick.there))) | (refine Ent.trans (Ent.drop _ _) ?_)))) ?_
 refine SG.region ?_
 refine RL.val (Wanted.free rfl) (V.move rfl rfl) rfl ?_
 refine RL.eff (Wanted.free rfl) (E.call rfl go75 rfl (lNewest_ok (g := lg0 f N 0 0) (lg0_ok (by omega) (by omega) (by omega) (by omega) 0) (D := D) (L1 := Dsk db D :: L1) pickX hD (by omega) Pick.here hon (by show f + 2 ≤ _; omega))) rfl ?_
 rintro _ _ ⟨rfl, rfl⟩
 rw [show nwM D (lg0 f N 0 0).f = nwM D f from rfl, show nwE D (lg0 f N 0 0).f = nwE D f from rfl]
 refine RL.val (Wanted.free rfl) (V.move rfl rfl) rfl ?_
 refine RL.val (Wanted.free rfl) (V.extract rfl rfl rfl) rfl ?_
 refine RL.val (Wanted.free rfl) (V.extract rfl rfl rfl) rfl ?_
 refine RL.eff (Wanted.free rfl) (E.alloc rfl ze101) rfl ?_
 rintro _ _ ⟨b10, rfl, rfl⟩
 refine RL.eff (Wanted.free rfl) (E.storeWhole rfl rfl rfl (by rfl) sz101 pickX (by first | (simp [Value.oneCell']; done) | (simp [setAt, Value.oneCell']; done)) (by rfl)) rfl ?_
 rintro _ _ rfl
 refine RL.val (Wanted.free rfl) (V.assign rfl rfl) rfl ?_
 refine RL.nil ?_
 refine SG.seq ?_
 refine SG.seq ?_
 refine SG.region ?_
 refine RL.val (Wanted.free rfl) (V.move rfl rfl) rfl ?_
 refine RL.cmpF (Wanted.free rfl) (V.bin rfl rfl rfl B.neq) rfl (by have := hF.e; omega) ?_
 refine RL.nil ?_
 refine SG.cond_false rfl ?_
 refine SG.skip ?_
 refine SG.seq ?_
 have hFz := hF.z
 have hFl := hF.l
 have hge := enc_ge rs
 refine SG.openLg (b := b28) (db := db) (g := lg0 f N 0 0) pickX fun da dn dc ra rn rc => ?_
 refine SG.buf (T := R8) (a := da) pickX fun hdn0 _ _ => ?_
 refine SG.buf (T := Rep.slice R8) (a := ra) pickX fun hrn0 _ _ => ?_
 have hdn1 : 0 = dn := hdn0
 have hrn1 : 0 = rn := hrn0
 refine SG.region ?_
 refine RL.val (Wanted.free rfl) (V.move rfl rfl) rfl ?_
 refine RL.val (Wanted.free rfl) (V.loadAgg (us := [v64 (nwM D f).1, v64 (nwM D f).2]) rfl ag101 rfl pickX rfl rfl) rfl ?_
 refine RL.val (Wanted.free rfl) (V.nilCheck rfl rfl) rfl ?_
 refine RL.val (Wanted.free rfl) (V.fieldAddr rfl rfl fo103_3) rfl ?_
 refine RL.eff (Wanted.free rfl) (E.storeAgg rfl rfl rfl rfl sz101 pickX (by first | (simp [Value.oneCell']; done) | (simp [setAt, Value.oneCell']; done)) (by first | (simp; done) | (simp [setAt]; done))) rfl ?_
 rintro _ _ rfl
 refine RL.nil ?_
 refine SG.seq ?_
 refine SG.seq ?_
 refine SG.region ?_
 refine RL.val (Wanted.free rfl) (V.assign rfl rfl) rfl ?_
 refine RL.nil ?_
 refine SG.block ?_
 refine SG.weaken (SG.loop2 (fun m9 al M => ∃ (q : Nat) (da : Option Addr) (dn dc : Nat), 64 * q < (enc rs).length + 64 ∧ ((enc rs).take (64 * q)).length = dn ∧ m9 = (enc rs).length + 64 - 64 * q ∧ al = [(0, ptr db 0), (1, vI f), (9, ptr b28 0), (10, ptr b10 0), (12, vI ((q + 2 : Nat) : Int))] ∧ M = Blk b28 103 (lgc db ⟨f, N, (nwM D f).1, (nwM D f).2, (enc rs).take (64 * q), [], 0, 0⟩ (.slice da dn dc) (.slice ra rn rc)) :: Buf R8 5 da dn dc ((enc rs).take (64 * q)) :: Buf (Rep.slice R8) 62 ra rn rc [] :: Blk b10 101 [v64 (nwM D f).1, v64 (nwM D f).2] :: Dsk db D :: L1) (m0 := _) ⟨0, da, dn, dc, by omega, by rw [← hdn1]; rfl, rfl, rfl, rfl⟩ ?_) ?_ ?_
 rotate_left
 ·
  repeat (first | exact EnvLe.nil _ | refine EnvLe.cons rfl ?_)
 ·
  exact entX
 rintro _ _ _ ⟨q, da, dn, dc, hq, hdq, rfl, rfl, rfl⟩ ih0
 refine SG.buf (T := R8) (a := da) pickX fun _ hdc _ => ?_
 have hdq2 : dn = min (64 * q) (enc rs).length := by rw [← hdq, List.length_take]
 refine SG.seq ?_
 refine SG.seq ?_
 refine SG.drawL 9 9 wide rfl rfl ?_
 refine RH.val 0 rfl krX krX krX krX (Wanted.free rfl) (V.move rfl rfl) rfl ?_
 refine RH.val 1 rfl krX krX krX krX (Wanted.free rfl) (V.nilCheck rfl rfl) rfl ?_
 refine RH.val 2 rfl krX krX krX krX (Wanted.free rfl) (V.fieldAddr rfl rfl fo103_4) rfl ?_
 refine RH.val 3 rfl krX krX krX krX (Wanted.free rfl) (V.load rfl on62 rfl pickX rfl) rfl ?_
 refine RH.val 4 rfl krX krX krX krX (Wanted.free rfl) (V.len rfl rfl el62.under rfl) rfl ?_
 refine RH.val 5 rfl krX krX krX krX (Wanted.free rfl) (V.fieldAddr rfl rfl fo101_1) rfl ?_
 refine RH.val 6 rfl krX krX krX krX (Wanted.free rfl) (V.load rfl on99 rfl pickX rfl) rfl ?_
 refine RH.val 7 rfl krX krX krX krX (Wanted.free rfl) (V.toI rfl ⟨_, ui99⟩ ui3 rfl (by omega) (by omega)) rfl ?_
 refine RH.cmp 8 rfl krX krX krX krX (Wanted.free rfl) (V.bin rfl rfl rfl B.lss) rfl (fun h38 => ?_) (fun h38 => ?_)
 ·
  refine RH.done krX ?_
  refine SG.cond_true rfl ?_
  refine SG.skip ?_
  refine SG.seq ?_
  refine SG.block ?_
  refine SG.seq ?_
  have hr0 := read_on (D := D) (k := f + 2 + q) (by omega) (by omega) hon
  have hX0 := nowI_len hD (k := f + 2 + q) (by omega) (by omega)
  have hr1 : (D.read (f + 2 + q)).1 = nowI D (f + 2 + q) := by rw [hr0]
  have hr2 : (D.read (f + 2 + q)).2 = 0 := by rw [hr0]
  refine SG.region ?_
  refine RL.val (Wanted.free rfl) (V.move rfl rfl) rfl ?_
  refine RL.val (Wanted.free rfl) (V.move rfl rfl) rfl ?_
  refine RL.val (Wanted.free rfl) (V.move rfl rfl) rfl ?_
  refine RL.val (Wanted.free rfl) (V.bin rfl rfl rfl (B.addI (by omega) (by omega))) rfl ?_
  rw [show f + ((q + 2 : Nat) : Int) = f + 2 + (q : Int) from by omega]
  refine RL.eff (Wanted.free rfl) (E.call rfl go76 rfl (dRead_ok hD (b := db) pickX (f + 2 + q) (by omega))) rfl ?_
  rintro _ _ ⟨a57, m57, c57, rfl, rfl⟩
  rw [hr1, hr2]
  refine RL.publish (T := R8) (a := a57) Pick.here ?_
  refine RL.val (Wanted.free rfl) (V.move rfl rfl) rfl ?_
  refine RL.val (Wanted.free rfl) (V.extract rfl rfl rfl) rfl ?_
  refine RL.val (Wanted.free rfl) (V.extract rfl rfl rfl) rfl ?_
  refine RL.val (Wanted.free rfl) (V.assign rfl rfl) rfl ?_
  refine RL.val (Wanted.free rfl) (V.assign rfl rfl) rfl ?_
  refine RL.nil ?_
  refine SG.seq ?_
  refine SG.seq ?_
  refine SG.region ?_
  refine RL.val (Wanted.free rfl) (V.move rfl rfl) rfl ?_
  refine RL.cmpF (Wanted.free rfl) (V.bin rfl rfl rfl B.neq) rfl (by omega) ?_
  refine RL.nil ?_
  refine SG.cond_false rfl ?_
  refine SG.skip ?_
  have hdd := hF.d q
  generalize nowI D (f + 2 + q) = X at hX0 hdd ⊢
  refine SG.sl (T := R8) (a := a57) (l := X) memX fun hm57 hc57 _ => ?_
  obtain ⟨h, hh⟩ : ∃ h : Nat, h = min 64 ((enc rs).length - 64 * q) := ⟨_, rfl⟩
  refine SG.cut (lo := 0) (hi := h) (l' := X.take h) (a := a57) (T := R8) memX (by omega) (by omega) (by rw [List.drop_zero, Nat.sub_zero]) ?_
  have hst := open_step hX0 hh (by omega) fun j hj => hdd j hj
  have hxl : (X.take h).length = h := by rw [List.length_take]; omega
  refine SG.drawN 23 22 (Blk b28 103 (lgc db ⟨f, N, (nwM D f).1, (nwM D f).2, (enc rs).take (64 * q), [], 0, 0⟩ (.slice da dn dc) (.slice ra rn rc)) :: Blk b10 101 [v64 (nwM D f).1, v64 (nwM D f).2] :: Sl R8 (cutA a57 0 R8.sz c57) (h - 0) (c57 - 0) (X.take h) :: L1) wide rfl rfl (by repeat (first | exact Ent.refl _ | (apply Ent.cons; (· repeat (first | exact Pick.here | (refine Pick.sl ?_; (· repeat (first | exact List.Mem.head _ | assumption | apply List.Mem.tail))) | apply Pick.there))) | (refine Ent.trans (Ent.drop _ _) ?_))) ?_
  refine RH.val 0 rfl krX krX krX krX (Wanted.free rfl) (V.move rfl rfl) rfl ?_
  refine RH.val 1 rfl krX krX krX krX (Wanted.free rfl) (V.move rfl rfl) rfl ?_
  refine RH.val 2 rfl krX krX krX krX (Wanted.free rfl) (V.nilCheck rfl rfl) rfl ?_
  refine RH.val 3 rfl krX krX krX krX (Wanted.free rfl) (V.fieldAddr rfl rfl fo103_4) rfl ?_
  refine RH.val 4 rfl krX krX krX krX (Wanted.free rfl) (V.load rfl on62 rfl pickX rfl) rfl ?_
  refine RH.val 5 rfl krX krX krX krX (Wanted.free rfl) (V.move rfl rfl) rfl ?_
  refine RH.val 6 rfl krX krX krX krX (Wanted.free rfl) (V.move rfl rfl) rfl ?_
  refine RH.val 7 rfl krX krX krX krX (Wanted.free rfl) (V.len rfl rfl el62.under rfl) rfl ?_
  refine RH.val 8 rfl krX krX krX krX (Wanted.free rfl) (V.fieldAddr rfl rfl fo101_1) rfl ?_
  refine RH.val 9 rfl krX krX krX krX (Wanted.free rfl) (V.load rfl on99 rfl pickX rfl) rfl ?_
  refine RH.val 10 rfl krX krX krX krX (Wanted.free rfl) (V.toI rfl ⟨_, ui99⟩ ui3 rfl (by omega) (by omega)) rfl ?_
  refine RH.val 11 rfl krX krX krX krX (Wanted.free rfl) (V.move rfl rfl) rfl ?_
  refine RH.val 12 rfl krX krX krX krX (Wanted.free rfl) (V.nilCheck rfl rfl) rfl ?_
  refine RH.val 13 rfl krX krX krX krX (Wanted.free rfl) (V.fieldAddr rfl rfl fo103_4) rfl ?_
  refine RH.val 14 rfl krX krX krX krX (Wanted.free rfl) (V.load rfl on62 rfl pickX rfl) rfl ?_
  refine RH.val 15 rfl krX krX krX krX (Wanted.free rfl) (V.len rfl rfl el62.under rfl) rfl ?_
  refine RH.val 16 rfl krX krX krX krX (Wanted.free rfl) (V.bin rfl rfl rfl (B.subI (by omega) (by omega))) rfl ?_
  refine RH.val 17 rfl krX krX krX krX (Wanted.free rfl) (V.min rfl rfl rfl rfl) rfl ?_
  refine RH.val 18 rfl krX krX krX krX (Wanted.free rfl) (V.slice (T := R8) (lo := 0) (hi := h) rfl el62.slice rfl rfl ⟨_, _, rfl, (by first | rfl | omega)⟩ (by omega) (by omega)) rfl ?_
  refine RH.one (i := 19) krX ?_
  refine RHone.eff rfl (Wanted.free rfl) (E.append (T := R8) rfl rfl rfl el62 el62.noInt rfl rfl pickX (Src.sl (T := R8) (l := X.take h) (by decide) memX) (by omega) (by omega)) rfl ?_
  intro _ _ hK69
  try rw [List.nil_append] at hK69
  try rw [Nat.zero_add] at hK69
  rw [hst] at hK69
  obtain ⟨a81, c81, rfl, rfl⟩ := hK69
  refine ⟨.inr entX, ?_⟩
  refine RH.pure 20 rfl krX krX krX krX (Wanted.free rfl) (V.nilCheck rfl rfl) rfl ?_
  refine RH.val 21 rfl krX krX krX krX (Wanted.free rfl) (V.fieldAddr rfl rfl fo103_4) rfl ?_
  refine RH.one (i := 22) krX ?_
  refine RHone.eff rfl (Wanted.free rfl) (E.store1 rfl rfl rfl rfl rfl sz62 pickX rfl) rfl ?_
  rintro _ _ rfl
  refine ⟨.inl krX, ?_⟩
  refine RH.done krX ?_
  refine SG.inBlock ?_
  refine SG.region ?_
  refine RL.val (Wanted.free rfl) (V.move rfl rfl) rfl ?_
  refine RL.val (Wanted.free rfl) (V.bin rfl rfl rfl (B.addI (by omega) (by omega))) rfl ?_
  refine RL.val (Wanted.free rfl) (V.assign rfl rfl) rfl ?_
  refine RL.nil ?_
  refine SG.weaken (ih0 _ _ _ ?_ ⟨q + 1, a81, dn + (X.take h).length, c81, by omega, by rw [hxl, List.length_take]; omega, rfl, rfl, rfl⟩) ?_ ?_
  ·
   omega
  ·
   repeat (first | exact EnvLe.nil _ | refine EnvLe.cons rfl ?_)
  ·
   exact entX
 ·
  refine RH.done krX ?_
  refine SG.cond_false rfl ?_
  refine SG.exit rfl ?_
  refine SG.seq ?_
  refine SG.seq ?_
  have hq3 : (enc rs).take (64 * q) = enc rs := List.take_of_length_le (by omega)
  rw [hq3]
  rw [hq3, ← hFz] at hdq
  have hdn2 : dn = (enc rs).length := by omega
  refine SG.region ?_
  refine RL.val (Wanted.free rfl) (V.move rfl rfl) rfl ?_
  refine RL.val (Wanted.free rfl) (V.nilCheck rfl rfl) rfl ?_
  refine RL.val (Wanted.free rfl) (V.fieldAddr rfl rfl fo103_4) rfl ?_
  refine RL.val (Wanted.free rfl) (V.load rfl on62 rfl pickX rfl) rfl ?_
  refine RL.val (Wanted.free rfl) (V.assign rfl rfl) rfl ?_
  refine RL.nil ?_
  refine SG.block ?_
  refine SG.weaken (SG.loop2 (fun m9 al M => ∃ (k lo : Nat) (xa : Option Addr) (cc : Nat) (ra : Option Addr) (rn rc : Nat), lo = (enc (rs.take k)).length ∧ lo ≤ dn ∧ dn - lo ≤ cc ∧ AtOff da lo (dn - lo) xa ∧ m9 = dn - lo ∧ al = [(9, ptr b28 0), (15, .slice xa (dn - lo) cc)] ∧ M = Blk b28 103 (lgc db ⟨f, N, (nwM D f).1, (nwM D f).2, enc rs, rs.take k, usedV (rs.take k), 0⟩ (.slice da dn dc) (.slice ra rn rc)) :: Buf R8 5 da dn dc (enc rs) :: Buf (Rep.slice R8) 62 ra rn rc (rs.take k) :: Dsk db D :: L1) (m0 := _) ⟨0, 0, da, dc, ra, rn, rc, rfl, by omega, by omega, AtOff.start _ _, rfl, rfl, rfl⟩ ?_) ?_ ?_
  rotate_left
  ·
   repeat (first | exact EnvLe.nil _ | refine EnvLe.cons rfl ?_)
  ·
   exact entX
  rintro _ _ _ ⟨k, lo, xa, cc, ra, rn, rc, hlo, hld, hcc, hat, rfl, rfl, rfl⟩ ih1
  refine SG.buf (T := Rep.slice R8) (a := ra) pickX fun hrnk _ _ => ?_
  rw [List.length_take] at hrnk
  refine SG.seq ?_
  refine SG.seq ?_
  refine SG.region ?_
  refine RL.val (Wanted.free rfl) (V.move rfl rfl) rfl ?_
  refine RL.val (Wanted.free rfl) (V.len rfl rfl el62.under rfl) rfl ?_
  refine RL.cmp (Wanted.free rfl) (V.bin rfl rfl rfl B.gtr) rfl (fun h83 => ?_) (fun h83 => ?_)
  ·
   refine RL.nil ?_
   refine SG.cond_true rfl ?_
   refine SG.skip ?_
   refine SG.block ?_
   refine SG.seq ?_
   have hk : k < rs.length := by
      rcases Nat.lt_or_ge k rs.length with h | h
      ·
       exact h
      ·
       rw [List.take_of_length_le h] at hlo; omega
   obtain ⟨r, hrk⟩ : ∃ r, rs[k]? = some r := ⟨_, List.getElem?_eq_getElem hk⟩
   obtain ⟨he1, he2, he3⟩ := enc_head hrk
   obtain ⟨hs1, hs2, hs3⟩ := enc_step hrk
   rw [← hlo] at he1 he2 he3 hs1
   refine SG.bufAd (a := da) pickX (by omega) fun ad had => ?_
   refine SG.region ?_
   refine RL.val (Wanted.free rfl) (V.move rfl rfl) rfl ?_
   refine RL.val (Wanted.free rfl) (V.slice (T := R8) (a := xa) (m := dn - lo) (c := cc) (lo := 0) (hi := 4) rfl el62.slice rfl rfl ⟨_, _, rfl, (by first | rfl | omega)⟩ (by decide) (by omega)) rfl ?_
   refine RL.eff (Wanted.free rfl) (E.call rfl go77 rfl (value_buf (a := da) (lo := lo + 0) (n := 4 - 0) pickX (by omega) (by decide) (by decide) (hat.cut (s := 0) (t := 4) (by decide) (by omega) (by omega)))) rfl ?_
   rintro _ _ ⟨rfl, rfl⟩
   rw [show ((enc rs).drop (lo + 0)).take (4 - 0) = leb 4 r.length from he1, lev_leb 4 r.length (by omega)]
   refine RL.val (Wanted.free rfl) (V.toI rfl ⟨_, ui99⟩ ui3 rfl (by rw [UInt64.toNat_ofNat']; omega) (by rw [UInt64.toNat_ofNat']; omega)) rfl ?_
   rw [show (UInt64.ofNat r.length).toNat = r.length from by rw [UInt64.toNat_ofNat']; omega]
   refine RL.val (Wanted.free rfl) (V.bin rfl rfl rfl (B.addI (by omega) (by omega))) rfl ?_
   refine RL.val (Wanted.free rfl) (V.assign rfl rfl) rfl ?_
   refine RL.nil ?_
   refine SG.seq ?_
   refine SG.drawN 14 13 (Blk b28 103 (lgc db ⟨f, N, (nwM D f).1, (nwM D f).2, enc rs, rs.take k, usedV (rs.take k), 0⟩ (.slice da dn dc) (.slice ra rn rc)) :: L1) wide rfl rfl (by repeat (first | exact Ent.refl _ | (apply Ent.cons; (· repeat (first | exact Pick.here | (refine Pick.sl ?_; (· repeat (first | exact List.Mem.head _ | assumption | apply List.Mem.tail))) | apply Pick.there))) | (refine Ent.trans (Ent.drop _ _) ?_))) ?_
   refine RH.val 0 rfl krX krX krX krX (Wanted.free rfl) (V.move rfl rfl) rfl ?_
   refine RH.val 1 rfl krX krX krX krX (Wanted.free rfl) (V.move rfl rfl) rfl ?_
   refine RH.val 2 rfl krX krX krX krX (Wanted.free rfl) (V.nilCheck rfl rfl) rfl ?_
   refine RH.val 3 rfl krX krX krX krX (Wanted.free rfl) (V.fieldAddr rfl rfl fo103_5) rfl ?_
   refine RH.val 4 rfl krX krX krX krX (Wanted.free rfl) (V.load rfl on36 rfl pickX rfl) rfl ?_
   refine RH.val 5 rfl krX krX krX krX (Wanted.free rfl) (V.move rfl rfl) rfl ?_
   refine RH.val 6 rfl krX krX krX krX (Wanted.free rfl) (V.move rfl rfl) rfl ?_
   refine RH.val 7 rfl krX krX krX krX (Wanted.free rfl) (V.slice (T := R8) (lo := 4) (hi := (4 + r.length)) rfl el62.slice rfl ⟨_, _, rfl, (by first | rfl | omega)⟩ ⟨_, _, rfl, (by first | rfl | omega)⟩ (by omega) (by omega)) rfl ?_
   refine RH.one (i := 8) krX ?_
   refine RHone.eff rfl (Wanted.free rfl) (E.call rfl go70 rfl (clone8_ok (l := r) (Src.bufAtE (l := enc rs) (a := da) (m := dn) (c := dc) (lo := lo + 4) pickX (by omega) (hat.cut (s := 4) (t := 4 + r.length) (by omega) (by omega) (by omega)) (by rw [show 4 + r.length - 4 = r.length from by omega]; exact he2)) (by omega) (fun e => (had ▸ hat.cut (s := 4) (t := 4 + r.length) (by omega) (by omega) (by omega)).some e) (by omega))) rfl ?_
   rintro _ _ ⟨a104, c104, rfl, rfl⟩
   refine ⟨.inr entX, ?_⟩
   refine RH.publish (T := R8) (a := a104) Pick.here ?_
   refine RH.one (i := 9) krX ?_
   refine RHone.eff rfl (Wanted.free rfl) (E.lit1 _ rfl el36.slice ze62 rfl (by decide) (by decide) rfl rfl rfl) rfl ?_
   rintro _ _ ⟨b105, rfl, rfl⟩
   refine ⟨.inr entX, ?_⟩
   refine RH.one (i := 10) krX ?_
   refine RHone.eff rfl (Wanted.free rfl) (E.append (T := (Rep.slice R8)) rfl rfl rfl el36 el36.noInt rfl rfl pickX (Src.litSl (y := r) pickX memX) (by first | omega | (simp; omega)) (by first | omega | (simp; omega))) rfl ?_
   intro _ _ hK100
   try rw [List.nil_append] at hK100
   try rw [Nat.zero_add] at hK100
   rw [hs2] at hK100
   obtain ⟨a106, c106, rfl, rfl⟩ := hK100
   refine ⟨.inr entX, ?_⟩
   refine RH.pure 11 rfl krX krX krX krX (Wanted.free rfl) (V.nilCheck rfl rfl) rfl ?_
   refine RH.val 12 rfl krX krX krX krX (Wanted.free rfl) (V.fieldAddr rfl rfl fo103_5) rfl ?_
   refine RH.one (i := 13) krX ?_
   refine RHone.eff rfl (Wanted.free rfl) (E.store1 rfl rfl rfl rfl rfl sz36 pickX rfl) rfl ?_
   rintro _ _ rfl
   refine ⟨.inl krX, ?_⟩
   refine RH.done krX ?_
   refine SG.seq ?_
   have hul := enc_len (rs.take k)
   rw [List.length_take, ← hlo] at hul
   refine SG.region ?_
   refine RL.val (Wanted.free rfl) (V.move rfl rfl) rfl ?_
   refine RL.val (Wanted.free rfl) (V.nilCheck rfl rfl) rfl ?_
   refine RL.val (Wanted.free rfl) (V.fieldAddr rfl rfl fo103_6) rfl ?_
   refine RL.val (Wanted.free rfl) (V.load rfl on3 rfl pickX rfl) rfl ?_
   rw [show Lg.used ⟨f, N, (nwM D f).1, (nwM D f).2, enc rs, rs.take k, usedV (rs.take k), 0⟩ = ((usedV (rs.take k) : Nat) : Int) from rfl]
   refine RL.val (Wanted.free rfl) (V.move rfl rfl) rfl ?_
   refine RL.val (Wanted.free rfl) (V.bin rfl rfl rfl (B.subI (by omega) (by omega))) rfl ?_
   refine RL.val (Wanted.free rfl) (V.bin rfl rfl rfl (B.addI (by omega) (by omega))) rfl ?_
   refine RL.val (Wanted.free rfl) (V.bin rfl rfl rfl (B.addI (by omega) (by omega))) rfl ?_
   rw [show (usedV (rs.take k) : Int) + (((4 : Int) + (r.length : Int)) - 4 + 12) = ((usedV (rs.take (k + 1)) : Nat) : Int) from by omega]
   refine RL.val (Wanted.free rfl) (V.nilCheck rfl rfl) rfl ?_
   refine RL.val (Wanted.free rfl) (V.fieldAddr rfl rfl fo103_6) rfl ?_
   refine RL.eff (Wanted.free rfl) (E.store1 rfl rfl rfl rfl rfl sz3 pickX rfl) rfl ?_
   rintro _ _ rfl
   refine RL.nil ?_
   refine SG.region ?_
   refine RL.val (Wanted.free rfl) (V.move rfl rfl) rfl ?_
   refine RL.val (Wanted.free rfl) (V.move rfl rfl) rfl ?_
   refine RL.val (Wanted.free rfl) (V.slice (T := R8) (a := xa) (m := dn - lo) (c := cc) (lo := 4 + r.length) (hi := dn - lo) rfl el62.slice rfl ⟨_, _, rfl, (by first | rfl | omega)⟩ rfl (by omega) (by omega)) rfl ?_
   rw [show dn - lo - (4 + r.length) = dn - (lo + (4 + r.length)) from by omega]
   refine RL.val (Wanted.free rfl) (V.assign rfl rfl) rfl ?_
   refine RL.nil ?_
   refine SG.inBlock ?_
   refine SG.weaken (ih1 _ _ _ ?_ ⟨k + 1, lo + (4 + r.length), cutA xa (4 + r.length) R8.sz cc, cc - (4 + r.length), a106, rn + 1, c106, by omega, by omega, by omega, by have h9 := hat.cut (s := 4 + r.length) (t := dn - lo) (by omega) (by omega) (by omega); rw [show dn - (lo + (4 + r.length)) = dn - lo - (4 + r.length) from by omega]; exact h9, rfl, rfl, rfl⟩) ?_ ?_
   ·
    omega
   ·
    repeat (first | exact EnvLe.nil _ | refine EnvLe.cons rfl ?_)
   ·
    exact entX
  ·
   refine RL.nil ?_
   refine SG.cond_false rfl ?_
   refine SG.exit rfl ?_
   refine SG.seq ?_
   have hk2 : rs.take k = rs := by
      rcases Nat.lt_or_ge k rs.length with h | h
      ·
       exfalso; obtain ⟨_, _, he3⟩ := enc_head (List.getElem?_eq_getElem h); rw [← hlo] at he3; omega
      ·
       exact List.take_of_length_le h
   refine SG.buf (T := Rep.slice R8) (a := ra) pickX fun hrn3 _ _ => ?_
   rw [hk2] at hrn3
   rw [hk2]
   refine SG.region ?_
   refine RL.val (Wanted.free rfl) (V.move rfl rfl) rfl ?_
   refine RL.val (Wanted.free rfl) (V.move rfl rfl) rfl ?_
   refine RL.val (Wanted.free rfl) (V.nilCheck rfl rfl) rfl ?_
   refine RL.val (Wanted.free rfl) (V.fieldAddr rfl rfl fo103_5) rfl ?_
   refine RL.val (Wanted.free rfl) (V.load rfl on36 rfl pickX rfl) rfl ?_
   refine RL.val (Wanted.free rfl) (V.len rfl rfl el36.under rfl) rfl ?_
   rw [show (rn : Int) = (rs.length : Int) from by omega]
   refine RL.val (Wanted.free rfl) (V.nilCheck rfl rfl) rfl ?_
   refine RL.val (Wanted.free rfl) (V.fieldAddr rfl rfl fo103_7) rfl ?_
   refine RL.eff (Wanted.free rfl) (E.store1 rfl rfl rfl rfl rfl sz3 pickX rfl) rfl ?_
   rintro _ _ rfl
   refine RL.nil ?_
   refine SG.seq ?_
   refine SG.region ?_
   refine RL.val (Wanted.free rfl) (V.move rfl rfl) rfl ?_
   refine RL.val (Wanted.free rfl) (V.assign rfl rfl) rfl ?_
   refine RL.val (Wanted.free rfl) (V.assign rfl rfl) rfl ?_
   refine RL.nil ?_
   refine SG.retE (Ret.r2 Tryd.func42 rfl (.tmp rfl) (.tmp rfl)) ?_ ⟨_, rfl, rfl⟩
   refine Lgm.ent (da := da) (dn := dn) (dc := dc) (ra := ra) (rn := rn) (rc := rc) ?_
   exact entX

end Go.Proofs.YtcbloadpffjkiaaDoor
